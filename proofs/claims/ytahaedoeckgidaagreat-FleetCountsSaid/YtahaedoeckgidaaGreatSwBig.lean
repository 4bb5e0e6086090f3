/- Data with arrays inside: kept whole, read and written by parts. -/
import Derived.Test.YtahaedoeckgidaaGreatSwMore
set_option linter.unusedVariables false
set_option linter.unusedSimpArgs false
namespace Go.Sw
/-- A part that can be read and written. -/
def Lens {α β : Type} (e : Enc α) (off : Nat) (e' : Enc β) (f : α → β) (s : α → β → α) : Prop :=
 ∀ H cs x, e.rep H cs x → ∃ ecs, e'.rep H ecs (f x) ∧ (cs.drop off).take e'.size = ecs ∧ off + e'.size ≤ cs.length ∧ ∀ us y, e'.rep H us y → e.rep H (splice cs off us) (s x y)
theorem Lens.part {α β : Type} {e : Enc α} {off : Nat} {e' : Enc β} {f : α → β} {s : α → β → α} (h : Lens e off e' f s) : Part e off e' f := fun H cs x hr => by
 obtain ⟨ecs, h1, h2, _⟩ := h H cs x hr
 exact ⟨ecs, h1, part_take h2⟩
theorem Part.refl {α : Type} (e : Enc α) : Part e 0 e (fun x => x) := fun H cs x hr => ⟨cs, hr, fun i v hv => by simpa using hv⟩
theorem Part.comp {α β γ : Type} {e : Enc α} {o1 o2 : Nat} {e1 : Enc β} {e2 : Enc γ} {f1 : α → β} {f2 : β → γ} (h1 : Part e o1 e1 f1) (h2 : Part e1 o2 e2 f2) : Part e (o1 + o2) e2 (fun x => f2 (f1 x)) := fun H cs x hr => by
 obtain ⟨c1, r1, g1⟩ := h1 H cs x hr
 obtain ⟨c2, r2, g2⟩ := h2 H c1 _ r1
 exact ⟨c2, r2, fun i v hv => by rw [Nat.add_assoc]; exact g1 _ _ (g2 i v hv)⟩
theorem Lens.refl {α : Type} (e : Enc α) : Lens e 0 e (fun x => x) (fun _ y => y) := fun H cs x hr =>
 ⟨cs, hr, by rw [← e.len hr]; simp, by rw [e.len hr]; omega, fun us y hu => by rw [splice_all _ _ (by rw [e.len hu, e.len hr])]; exact hu⟩
theorem splice_in {cs us : List Value} {o1 o2 m : Nat} (h1 : o1 + m ≤ cs.length) (h2 : o2 + us.length ≤ m) : splice cs (o1 + o2) us = splice cs o1 (splice ((cs.drop o1).take m) o2 us) := by
 have hl : ((cs.drop o1).take m).length = m := by rw [List.length_take, List.length_drop]; omega
 apply List.ext_getElem?
 intro j
 rw [getElem?_splice us cs _ _ (by omega), getElem?_splice _ cs _ _ (by rw [splice_length, hl]; omega), splice_length, hl]
 by_cases ha : o1 ≤ j ∧ j < o1 + m
 ·rw [if_pos ha, getElem?_splice us _ _ _ (by rw [hl]; omega)]
  by_cases hb : o1 + o2 ≤ j ∧ j < o1 + o2 + us.length
  ·rw [if_pos hb, if_pos (by omega), show j - o1 - o2 = j - (o1 + o2) from by omega]
  ·rw [if_neg hb, if_neg (by omega), List.getElem?_take, if_pos (by omega), List.getElem?_drop, show o1 + (j - o1) = j from by omega]
 ·rw [if_neg ha, if_neg (by omega)]
theorem Lens.comp {α β γ : Type} {e : Enc α} {o1 o2 : Nat} {e1 : Enc β} {e2 : Enc γ} {f1 : α → β} {f2 : β → γ} {s1 : α → β → α} {s2 : β → γ → β} (h1 : Lens e o1 e1 f1 s1) (h2 : Lens e1 o2 e2 f2 s2) :
  Lens e (o1 + o2) e2 (fun x => f2 (f1 x)) (fun x y => s1 x (s2 (f1 x) y)) := fun H cs x hr => by
 obtain ⟨c1, r1, g1, l1, u1⟩ := h1 H cs x hr
 obtain ⟨c2, r2, g2, l2, u2⟩ := h2 H c1 _ r1
 have hl := e1.len r1
 refine ⟨c2, r2, ?_, by omega, fun us y hu => ?_⟩
 ·rw [← g2, ← g1]
  apply List.ext_getElem?
  intro j
  simp only [List.getElem?_take, List.getElem?_drop]
  by_cases hj : j < e2.size
  ·rw [if_pos hj, if_pos hj, if_pos (by omega), Nat.add_assoc]
  ·rw [if_neg hj, if_neg hj]
 ·rw [splice_in (m := e1.size) l1 (by rw [e2.len hu]; omega), g1]
  exact u1 _ _ (u2 us y hu)
def ePair {α β : Type} (e1 : Enc α) (e2 : Enc β) : Enc (α × β) where
 size := e1.size + e2.size
 rep H cs x := ∃ c1 c2, cs = c1 ++ c2 ∧ e1.rep H c1 x.1 ∧ e2.rep H c2 x.2
 len := by rintro H cs x ⟨c1, c2, rfl, h1, h2⟩; rw [List.length_append, e1.len h1, e2.len h2]
 one := by
  rintro H cs x ⟨c1, c2, rfl, h1, h2⟩ v hv
  rcases List.mem_append.1 hv with hv | hv
  ·exact e1.one h1 v hv
  ·exact e2.one h2 v hv
 mono := by rintro H H' cs x hl ⟨c1, c2, rfl, h1, h2⟩; exact ⟨c1, c2, rfl, e1.mono hl h1, e2.mono hl h2⟩
def eUnit : Enc Unit where
 size := 0
 rep _ cs _ := cs = []
 len := by rintro H cs x rfl; rfl
 one := by rintro H cs x rfl v hv; cases hv
 mono := by rintro H H' cs x hl rfl; rfl
def eIso {α β : Type} (e : Enc α) (to : β → α) : Enc β where
 size := e.size
 rep H cs y := e.rep H cs (to y)
 len := fun h => e.len h
 one := fun h => e.one h
 mono := fun hl h => e.mono hl h
theorem lens_fst {α β : Type} (e1 : Enc α) (e2 : Enc β) : Lens (ePair e1 e2) 0 e1 (·.1) (fun x y => (y, x.2)) := by
 rintro H cs x ⟨c1, c2, rfl, h1, h2⟩
 have hl := e1.len h1
 refine ⟨c1, h1, by rw [List.drop_zero, ← hl]; simp, by simp; omega, fun us y hu => ⟨us, c2, ?_, hu, h2⟩⟩
 have hu' := e1.len hu
 apply List.ext_getElem?
 intro j
 rw [getElem?_splice us _ _ _ (by simp; omega)]
 simp only [Nat.zero_le, Nat.zero_add, true_and, Nat.sub_zero, List.getElem?_append]
 by_cases hj : j < us.length
 ·rw [if_pos hj, if_pos hj]
 ·rw [if_neg hj, if_neg hj, if_neg (by omega), hl, hu']
theorem lens_snd {α β : Type} (e1 : Enc α) (e2 : Enc β) : Lens (ePair e1 e2) e1.size e2 (·.2) (fun x y => (x.1, y)) := by
 rintro H cs x ⟨c1, c2, rfl, h1, h2⟩
 have hl := e1.len h1
 have hl2 := e2.len h2
 refine ⟨c2, h2, by rw [← hl, ← hl2]; simp, by simp; omega, fun us y hu => ⟨c1, us, ?_, h1, hu⟩⟩
 have hu' := e2.len hu
 apply List.ext_getElem?
 intro j
 rw [getElem?_splice us _ _ _ (by simp; omega)]
 simp only [List.getElem?_append]
 by_cases hj : j < c1.length
 ·rw [if_neg (by omega), if_pos hj, if_pos hj]
 ·rw [if_neg hj, if_neg hj]
  by_cases hq : j < e1.size + us.length
  ·rw [if_pos ⟨by omega, hq⟩, hl]
  ·rw [if_neg (by omega), List.getElem?_eq_none (by omega), List.getElem?_eq_none (by omega)]
theorem Rows.one_ {α : Type} {en : Enc α} {H : IHeap} {cs : List Value} {xs : List α} (h : Rows en H cs xs) : ∀ v ∈ cs, v.oneCell' = true := by
 intro v hv
 obtain ⟨q, hq⟩ := List.getElem?_of_mem hv
 have hlt := (List.getElem?_eq_some_iff.1 hq).1
 rw [h.1] at hlt
 have hs : 0 < en.size := Nat.pos_of_ne_zero fun h0 => by rw [h0] at hlt; simp at hlt
 have hj : q / en.size < xs.length := Nat.div_lt_of_lt_mul (by rw [Nat.mul_comm]; exact hlt)
 obtain ⟨ecs, hr, hi⟩ := h.2 (q / en.size) _ (List.getElem?_eq_getElem hj)
 have hm : q % en.size < ecs.length := by rw [en.len hr]; exact Nat.mod_lt _ hs
 have := hi _ _ (List.getElem?_eq_getElem hm)
 rw [Nat.div_add_mod' q en.size, hq] at this
 injection this with this
 rw [this]; exact en.one hr _ (List.getElem_mem hm)
def eArr {α : Type} (n : Nat) (en : Enc α) : Enc (List α) where
 size := n * en.size
 rep H cs xs := Rows en H cs xs ∧ xs.length = n
 len := by rintro H cs x ⟨h, rfl⟩; exact h.1
 one := fun h => h.1.one_
 mono := fun hl h => ⟨h.1.up hl, h.2⟩
theorem lens_idx {α : Type} [Inhabited α] {n : Nat} (en : Enc α) {i : Int} (hi : inb i n = true) : Lens (eArr n en) (i.toNat * en.size) en (fun xs => at0 xs i) (fun xs y => xs.set i.toNat y) := by
 rintro H cs xs ⟨h, rfl⟩
 have hlt := (inb_lt hi).2
 obtain ⟨ecs, hr, hc⟩ := h.2 _ _ (at0_some hi)
 have hle : (i.toNat + 1) * en.size ≤ xs.length * en.size := Nat.mul_le_mul_right _ hlt
 rw [Nat.succ_mul] at hle
 refine ⟨ecs, hr, ?_, by rw [h.1]; exact hle, fun us y hu => ⟨h.set hlt hu, by simp⟩⟩
 apply List.ext_getElem?
 intro j
 rw [List.getElem?_take, List.getElem?_drop]
 by_cases hj : j < en.size
 ·rw [if_pos hj]
  have hj' : j < ecs.length := by rw [en.len hr]; exact hj
  rw [List.getElem?_eq_getElem hj', hc _ _ (List.getElem?_eq_getElem hj')]
 ·rw [if_neg hj, List.getElem?_eq_none (by rw [en.len hr]; omega)]
theorem Rows.repl {α : Type} {en : Enc α} {H : IHeap} {v : Value} {z : α} (h : en.rep H [v] z) : ∀ n, Rows en H (List.replicate n v) (List.replicate n z)
 | 0 => Rows.nil
 | n + 1 => Rows.cons h (Rows.repl h n)
theorem rep_repl {α : Type} {en : Enc α} {H : IHeap} {v : Value} {z : α} (n : Nat) (h : en.rep H [v] z) : (eArr n en).rep H (List.replicate n v) (List.replicate n z) := ⟨Rows.repl h n, by simp⟩
theorem take_of_part {cs ecs : List Value} {off m : Nat} (h : ∀ i v, ecs[i]? = some v → cs[off + i]? = some v) (hl : ecs.length = m) : (cs.drop off).take m = ecs := by
 apply List.ext_getElem?
 intro j
 rw [List.getElem?_take, List.getElem?_drop]
 by_cases hj : j < m
 ·rw [if_pos hj, List.getElem?_eq_getElem (by omega : j < ecs.length), h _ _ (List.getElem?_eq_getElem (by omega : j < ecs.length))]
 ·rw [if_neg hj, List.getElem?_eq_none (by omega)]
theorem rep_len {α : Type} {en : Enc α} {H : IHeap} {cs : List Value} {x : α} {m : Nat} (h : en.rep H cs x) (hs : en.size = m) : cs.length = m := by rw [en.len h, hs]
theorem whole_take {cs : List Value} {m : Nat} (h : cs.length = m) : (cs.drop 0).take m = cs := by subst h; simp
section
variable {P : Program} {n : Nat} {N : Cont} {r : Regs} {w : World} {ops : Array Oper} {rest : List Oper} {d : Nat} {dst : Option Tmp} {gd : Option (Nat × Bool)} {ty : TypeId} {pos : String} {after : Array Edge}
variable {w0 : World} {H0 : IHeap} {M0 : List Nat} {H : IHeap} {O : OHeap}
/-- A part of a variable is written. -/
theorem o_stP {α β : Type} {en : Enc α} {e' : Enc β} {off g : Nat} {f : α → β} {s : α → β → α} {cs us : List Value} {e : TypeId} {x : α} {z : β} {t : TypeId} {X Y : Operand} (k : Nat) (v : Value) (hO : St w0 H0 M0 H O w) (hk' : O k = some (.blk g cs e)) (hr : en.rep H cs x) (hl : Lens en off e' f s)
  (hx : rv r X = .pointer (some ⟨g, off, none⟩)) (hy : rv r Y = v) (hv : cl v = us) (hz : e'.rep H us z) (ht : tySize P t = some e'.size)
  (hk : ∀ cs' w', en.rep H cs' (s x z) → St w0 H0 M0 H (oup O k (some (.blk g cs' e))) w' → WL P n ops rest N r w') :
  WL P n ops (⟨none, .store t X Y, ty, pos, after, none⟩ :: rest) N r w := by
 obtain ⟨ecs, h1, h2, h3, h4⟩ := hl H cs x hr
 have hul := e'.len hz
 obtain ⟨w', hrun, hs⟩ := run_storeCells (P := P) us 0 w O cs hO hk' (e'.one hz) (off := off) (by omega)
 refine WL.op0 (fun _ w'' => w'' = w') ?_ (fun _ w'' h2 => by
  subst h2
  refine hk _ _ (h4 us z hz) (hs _ fun j => ?_)
  by_cases hj : j = k
  ·subst hj; rw [oup_same, if_pos rfl]; rfl
  ·rw [oup_ne _ _ (fun h => hj h.symm), if_neg hj])
 have hsz : v.cells.size = e'.size := by rw [← hul, ← hv]; simp [cl]
 have hcl : v.cells.toList = us := hv
 unfold Does
 simp [execOp, Instr.storeAt, hx, hy, Instr.sureAddr, storeVar, run_sizeOf ht, hsz, hcl, hrun]
/-- The address of an element of an array that nobody writes any more. -/
theorem x_iaAt {α : Type} {e : Enc α} {y : α} {xt : TypeId} {x z : Operand} {a : Addr} {m size : Nat} {i : Int} {ik : IntKind} (hx : rv r x = .pointer (some a)) (ha : At e H a y) (hy : rv r z = .int ik i) (ht : arEl P xt = some (m, size)) (hi : inb i m = true) :
  (execOp (rv r) ⟨dst, .indexAddr xt x z, ty, pos, after, gd⟩).run P w = .ok (.value (.pointer (some (a.add (i.toNat * size))))) w := by
 obtain ⟨b, o, rfl, _⟩ := id ha
 rw [x_iaArr hx hy ht hi, addr_add]
end
end Go.Sw

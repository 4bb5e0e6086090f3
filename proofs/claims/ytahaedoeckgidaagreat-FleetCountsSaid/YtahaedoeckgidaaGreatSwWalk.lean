/- Words that the printed walks use. -/
import Derived.Test.YtahaedoeckgidaaGreatSwDraw
import Derived.Laws.BytesArg
import Derived.Lib.ConvBytes
set_option linter.unusedVariables false
set_option linter.unusedSimpArgs false
namespace Go.Sw
abbrev i64w (x : Int) : Int := IntKind.i64.wrap x
abbrev i32w (x : Int) : Int := IntKind.i32.wrap x
abbrev u32w (x : Int) : Int := IntKind.u32.wrap x
abbrev u8w (x : Int) : Int := IntKind.u8.wrap x
/-- How a loop is left: by its end, or by a return. -/
inductive LR (σ ρ : Type) where
 | out (s : σ)
 | ret (r : ρ)
def FUEL : Nat := 1000000
def limI (i : Int) : Bool := decide (i ≤ 9223372036854775807)
def chr (s : Str) (i : Int) : Int := ((at0 s i).toNat : Int)
def cut (s : Str) (l h : Int) : Str := (s.drop l.toNat).take (h.toNat - l.toNat)
def cutOk (l h : Int) (n : Nat) : Bool := decide (0 ≤ l) && decide (l ≤ h) && decide (h ≤ n)
theorem kb {v : Value} {b c : Bool} (h : v = .bool b) (hb : b = c) : v = .bool c := by rw [h, hb]
theorem gkT {b : Bool} {v u : Value} (h : b = true) : (bif b == true then v else u) = v := by rw [h]; rfl
theorem gkF {b : Bool} {v u : Value} (h : b = false) : (bif b == false then v else u) = v := by rw [h]; rfl
theorem gnT {b : Bool} {v u : Value} (h : b = true) : (bif b == false then v else u) = u := by rw [h]; rfl
theorem gnF {b : Bool} {v u : Value} (h : b = false) : (bif b == true then v else u) = u := by rw [h]; rfl
theorem btest {ρ : Type} {b : Bool} {A B : Option ρ} {res : ρ} (h : (bif b then A else B) = some res) : (b = true ∧ A = some res) ∨ (b = false ∧ B = some res) := by cases b <;> simp_all
theorem nz {y : Int} (h : (y != 0) = true) : (y == 0) = false := by simpa using h
theorem drop_nil {α : Type} {xs : List α} {i : Nat} (h : List.drop i xs = []) : decide ((i : Int) < (xs.length : Int)) = false := by
 have := congrArg List.length h
 simp at this ⊢; omega
theorem drop_lt {α : Type} {xs rest : List α} {i : Nat} {x : α} (h : List.drop i xs = x :: rest) : decide ((i : Int) < (xs.length : Int)) = true := by
 have := congrArg List.length h
 simp at this ⊢; omega
theorem drop_next {α : Type} {xs rest : List α} {i : Nat} {x : α} (h : List.drop i xs = x :: rest) : List.drop (i + 1) xs = rest := by
 rw [← List.drop_drop, h]; rfl
theorem i64w_eq {x : Int} (h0 : -9223372036854775808 ≤ x) (h1 : x ≤ 9223372036854775807) : i64w x = x := by
 rw [i64w, IntKind.wrap_i64]
 omega
theorem inc_len {n c i : Nat} (h : decide ((i : Int) < (n : Int)) = true) (hn : n ≤ c) (hc : c ≤ maxLen) : i64w ((i : Int) + 1) = ((i + 1 : Nat) : Int) := by
 simp [maxLen] at h hc
 rw [i64w_eq (by omega) (by omega)]; simp
theorem inc_lim {i : Nat} {m : Int} (h : decide ((i : Int) < m) = true) (hm : limI m = true) : i64w ((i : Int) + 1) = ((i + 1 : Nat) : Int) := by
 simp [limI] at h hm
 rw [i64w_eq (by omega) (by omega)]; simp
theorem cnt_init (m : Int) : Int.toNat (m - ((0 : Nat) : Int)) = Int.toNat m := by simp
theorem cnt_zero {m : Int} {i : Nat} (h : Int.toNat (m - (i : Int)) = 0) : decide ((i : Int) < m) = false := by simp; omega
theorem cnt_lt {m : Int} {i k : Nat} (h : Int.toNat (m - (i : Int)) = k + 1) : decide ((i : Int) < m) = true := by simp; omega
theorem cnt_next {m : Int} {i k : Nat} (h : Int.toNat (m - (i : Int)) = k + 1) : Int.toNat (m - ((i + 1 : Nat) : Int)) = k := by omega
theorem incv {k : IntKind} {a b : Int} (h : a = b) : Value.int k a = .int k b := by rw [h]
theorem RS.atR {α : Type} {e : Enc α} {H : IHeap} {A : Option Addr} {c : Nat} {xs rest : List α} {x : α} {i : Nat} (h : RS e H A c xs) (hd : List.drop i xs = x :: rest) :
  ∃ a, At e H (a.add (((i : Int)).toNat * e.size)) x ∧ A = some a ∧ inb (i : Int) xs.length = true := by
 have hl := drop_lt hd
 have hx : xs[i]? = some x := by
  have := congrArg (fun l => l[0]?) hd
  simpa using this
 obtain ⟨b, o, rfl, hat⟩ := h.2.2 (fun h => by subst h; simp at hd)
 exact ⟨_, by rw [addr_add]; exact hat _ _ hx, rfl, by simp [inb]; simpa using hl⟩
theorem sA {v : Value} {A : Option Addr} {a : Addr} {n c : Nat} (h : v = .slice A n c) (hA : A = some a) : v = .slice (some a) n c := by rw [h, hA]
theorem setlen {α : Type} {v : Value} {A : Option Addr} {c i : Nat} {xs : List α} {z : α} (h : v = .slice A xs.length c) : v = .slice A (xs.set i z).length c := by rw [h]; simp
theorem args1 {v1 u1 : Value} (h1 : v1 = u1) : [v1] = [u1] := by rw [h1]
theorem args2 {v1 v2 u1 u2 : Value} (h1 : v1 = u1) (h2 : v2 = u2) : [v1, v2] = [u1, u2] := by rw [h1, h2]
theorem args3 {v1 v2 v3 u1 u2 u3 : Value} (h1 : v1 = u1) (h2 : v2 = u2) (h3 : v3 = u3) : [v1, v2, v3] = [u1, u2, u3] := by rw [h1, h2, h3]
section
variable {P : Program} {r : Regs} {w : World} {dst : Option Tmp} {gd : Option (Nat × Bool)} {ty : TypeId} {pos : String} {after : Array Edge} {x y : Operand} {xt yt : TypeId} {k : IntKind} {a b : Int} {s t : Str}
theorem x_min (hx : rv r x = .int k a) (hy : rv r y = .int k b) : (execOp (rv r) ⟨dst, .call ⟨.builtin .min, #[x, y], #[xt, yt]⟩, ty, pos, after, gd⟩).run P w = .ok (.value (.int k (iMin a b))) w := by
 simp [execOp, resolve, invoke, builtin, Builtin.min_, Builtin.min2, hx, hy, iMin]
theorem x_max (hx : rv r x = .int k a) (hy : rv r y = .int k b) : (execOp (rv r) ⟨dst, .call ⟨.builtin .max, #[x, y], #[xt, yt]⟩, ty, pos, after, gd⟩).run P w = .ok (.value (.int k (iMax a b))) w := by
 simp [execOp, resolve, invoke, builtin, Builtin.max_, Builtin.max2, hx, hy, iMax]
theorem x_idx (hu : P.underlying xt = some .string) (hx : rv r x = vs s) (hy : rv r y = .int k a) (hi : inb a s.length = true) :
  (execOp (rv r) ⟨dst, .index xt x y, ty, pos, after, gd⟩).run P w = .ok (.value (.int .u8 (chr s a))) w := by
 have hb : 0 ≤ a ∧ a < s.length := by simpa [inb] using hi
 have hg : (⟨s.toArray⟩ : ByteArray)[a.toNat]? = some (at0 s a) := by
  have := at0_some hi
  have hlt : a.toNat < (⟨s.toArray⟩ : ByteArray).size := by rw [vs_size]; omega
  rw [getElem?_pos (⟨s.toArray⟩ : ByteArray) a.toNat hlt]
  have h2 : s[a.toNat]? = some (s[a.toNat]'(by rw [vs_size] at hlt; exact hlt)) := List.getElem?_eq_getElem _
  rw [h2] at this
  simp only [Option.some.injEq] at this ⊢
  rw [← this]; rfl
 simp [execOp, Instr.index, hx, hy, vs, asIntOf, run_underlying hu, hb.1, hg, chr]
theorem x_cat (hx : rv r x = vs s) (hy : rv r y = vs t) (hl : lim (s.length + t.length) = true) :
  (execOp (rv r) ⟨dst, .binOp .add xt x y yt, ty, pos, after, gd⟩).run P w = .ok (.value (vs (s ++ t))) w := by
 have h1 : ¬ (((s.length + t.length : Nat) : Int) > IntKind.i64.max) := by
  have : IntKind.i64.max = 9223372036854775807 := by decide
  simp [lim] at hl; omega
 have h2 : (⟨s.toArray⟩ ++ ⟨t.toArray⟩ : ByteArray) = ⟨(s ++ t).toArray⟩ := by
  apply ByteArray.ext
  simp [ByteArray.data_append]
 simp only [execOp, hx, hy, vs, binOp, eqGuard, Op.stringOp, vs_size]
 simp only [h1, if_false, h2]
 simp
theorem cut_vs (l h : Nat) : (⟨s.toArray⟩ : ByteArray).extract l h = ⟨((s.drop l).take (h - l)).toArray⟩ := by
 apply ByteArray.ext
 simp [ByteArray.data_extract]
theorem x_cutlh {lo hi : Operand} {k' : IntKind} (hu : P.underlying xt = some .string) (hx : rv r x = vs s) (hl : rv r lo = .int k a) (hh : rv r hi = .int k' b) (hok : cutOk a b s.length = true) :
  (execOp (rv r) ⟨dst, .slice xt x (some lo) (some hi) none, ty, pos, after, gd⟩).run P w = .ok (.value (vs (cut s a b))) w := by
 simp [cutOk] at hok
 have h1 : 0 ≤ b ∧ b ≤ s.length := by omega
 have h2 : a ≤ ((b.toNat : Nat) : Int) := by omega
 have h3 : ¬ max b 0 < a := by omega
 simp [execOp, Instr.sliceAt, Instr.slice, Instr.sliceBounds, Instr.sliceBound, hx, hl, hh, vs, run_underlying hu, asIntOf, vs_size, h1.1, h1.2, hok.1.1, h2, h3, cut_vs, cut]
theorem run_equal_slnil {A : Option Addr} {m c : Nat} {e : TypeId} (ht : P.underlying xt = some (.slice e)) : (Op.equal xt (.slice A m c) (.slice none 0 0)).run P w = .ok A.isNone w := by
 have h : ∀ d : Nat, (Op.equalIn (d + 1) xt (.slice A m c) (.slice none 0 0)).run P w = .ok A.isNone w := fun d => by
  cases A <;> simp [Op.equalIn, run_underlying ht]
 exact h 9999
theorem x_eqlnil {A : Option Addr} {m c : Nat} {e : TypeId} (ht : P.underlying xt = some (.slice e)) (hx : rv r x = .slice A m c) (hy : rv r y = .slice none 0 0) : (execOp (rv r) ⟨dst, .binOp .eql xt x y yt, ty, pos, after, gd⟩).run P w = .ok (.value (.bool A.isNone)) w := by
 simp only [execOp, hx, hy, binOp, eqGuard]; simp [run_equal_slnil ht]
theorem RS.isNone {α : Type} {e : Enc α} {H : IHeap} {A : Option Addr} {c : Nat} {xs : List α} (h : RS e H A c xs) (hA : A.isNone = true) : xs = [] := by
 refine Classical.byContradiction fun hn => ?_
 obtain ⟨b, o, rfl, _⟩ := h.2.2 hn
 cases hA
/-! ### bytes and texts -/
end
def bstr (xs : List Int) : Str := xs.map fun n => UInt8.ofNat n.toNat
def bytesI (s : Str) : List Int := s.map fun b => (b.toNat : Int)
theorem Rows.int {k : IntKind} {H : IHeap} {cells : List Value} {xs : List Int} (h : Rows (eInt k) H cells xs) : cells = xs.map (Value.int k) := by
 obtain ⟨h1, h2⟩ := h
 have h1' : cells.length = xs.length := by simpa [eInt] using h1
 apply List.ext_getElem?
 intro i
 rcases Nat.lt_or_ge i xs.length with hi | hi
 ·obtain ⟨ecs, hr, hc⟩ := h2 i xs[i] (List.getElem?_eq_getElem hi)
  have he : ecs = [Value.int k xs[i]] := hr
  subst he
  have := hc 0 _ rfl
  simp only [eInt, Nat.mul_one, Nat.add_zero] at this
  rw [this]; simp [hi]
 ·rw [List.getElem?_eq_none (by omega), List.getElem?_eq_none (by simpa using hi)]
section
variable {P : Program} {n : Nat} {N : Cont} {r : Regs} {w : World} {ops : Array Oper} {rest : List Oper} {d : Nat} {dst : Option Tmp} {gd : Option (Nat × Bool)} {ty : TypeId} {pos : String} {after : Array Edge} {x y : Operand} {xt yt : TypeId}
variable {w0 : World} {H0 : IHeap} {M0 : List Nat} {H : IHeap} {O : OHeap}
theorem x_str {e : TypeId} {A : Option Addr} {c : Nat} {xs : List Int} {cells : List Value} (hs : P.underlying xt = some (.slice e)) (he : P.underlying e = some (.int .u8)) (ht : P.underlying yt = some .string) (hx : rv r x = .slice A xs.length c) (hsrc : Src w A xs.length (eInt .u8).size cells) (hr : Rows (eInt .u8) H cells xs) :
  (execOp (rv r) ⟨dst, .convert xt yt x, ty, pos, after, gd⟩).run P w = .ok (.value (vs (bstr xs))) w := by
 have hrun : (convert xt yt (.slice A xs.length c)).run P w = .ok (.string (strOfNums xs)) w := by
  obtain ⟨_, _, h⟩ := hsrc
  rcases h with h | ⟨b, o, rfl, h⟩
  ·have hx0 : xs = [] := List.eq_nil_of_length_eq_zero h
   subst hx0
   cases A with
   | none => exact run_convert_bytes_nil w xt e hs he _ _ yt ht
   | some a => simp [convert, run_underlying hs, run_underlying ht, run_underlying he, Conv.bytesToString, loadCells, loadCellsFrom, strOfNums]; rfl
  ·refine run_convert_bytes_arg w xt e hs he b o _ _ xs rfl (fun i hi => ?_) yt ht
   refine h i _ ?_
   rw [hr.int]
   simp [List.getElem?_eq_getElem hi, List.getD_eq_getElem?_getD]
 simp [execOp, hx, hrun]; rfl
theorem St.newData {w' : World} {o : Obj} (h : St w0 H0 M0 H O w) (hh : w'.heap[w.heap.size]? = some o) (hold : ∀ b, b < w.heap.size → w'.heap[b]? = w.heap[b]?) (hsz : w.heap.size ≤ w'.heap.size) (ho : w'.os = w.os) (ht : w'.tape = w.tape) (hu : w'.output = w.output) :
  ∃ H', Le H H' ∧ H' w.heap.size = some o ∧ St w0 H0 M0 H' O w' := by
 have hn : H w.heap.size = none := by
  cases hh : H w.heap.size with
  | none => rfl
  | some o => exact absurd (h.sub.lt hh) (Nat.lt_irrefl _)
 refine ⟨fun b => if b = w.heap.size then some o else H b, fun b o' e => ?_, by simp, fun b o' e => ?_, fun b o' e => ?_, fun b o' e => ?_, fun k p e => Own.ok_same (h.ok k p e) fun g hg => hold g (Own.lt (h.ok k p e) hg), fun k p g e hg => ?_, h.nd, fun b hb hn' => ?_, Nat.le_trans h.sz hsz, ho.trans h.os, ht.trans h.tape, hu.trans h.output⟩
 ·by_cases hb : b = w.heap.size
  ·subst hb; rw [hn] at e; cases e
  ·simp [hb, e]
 ·by_cases hb : b = w.heap.size
  ·subst hb; simpa [hh] using e
  ·simp [hb] at e; rw [hold b (h.sub.lt e)]; exact h.sub b o' e
 ·by_cases hb : b = w.heap.size
  ·have := h.le b o' e; rw [hb, hn] at this; cases this
  ·simp [hb]; exact h.le b o' e
 ·by_cases hb : b = w.heap.size
  ·subst hb; exact .inr (.inl h.sz)
  ·simp [hb] at e; exact h.new_ b o' e
 ·have hlt := Own.lt (h.ok k p e) hg
  have : g ≠ w.heap.size := by omega
  simp [this]; exact h.own k p g e hg
 ·rw [hold b (Nat.lt_of_lt_of_le hb h.sz)]; exact h.fr b hb hn'
theorem o_bytes {e : TypeId} {s : Str} {u : TypeDesc} (hO : St w0 H0 M0 H O w) (hs : P.underlying xt = some u) (ht : P.underlying yt = some (.slice e)) (he : P.underlying e = some (.int .u8)) (hx : rv r x = vs s) (hl : lim s.length = true)
  (hk : ∀ A c H' w', Le H H' → RS (eInt .u8) H' A c (bytesI s) → St w0 H0 M0 H' O w' → WL P n ops rest N (upd r d (.slice A (bytesI s).length c)) w') (hd : Nat.blt d n = true := by rfl) :
  WL P n ops (⟨some d, .convert xt yt x, ty, pos, after, none⟩ :: rest) N r w := by
 have hrun := Lib.run_convert_string_bytes (P := P) w xt yt e ⟨s.toArray⟩ hs ht he
 obtain ⟨H', hle, hg, hst⟩ := hO.newData (Lib.bytesWorld_at_new w e ⟨s.toArray⟩) (fun b hb => Lib.bytesWorld_at_old w e _ b hb) (by rw [Lib.bytesWorld_size]; omega) rfl rfl rfl
 have hlen : (bytesI s).length = s.length := by simp [bytesI]
 have hcap : s.length ≤ grownCap w s.length 0 e ∧ grownCap w s.length 0 e ≤ maxLen := by
  refine ⟨grownCap_ge _ _ _ _, grownCap_le_maxLen _ _ _ _ ?_⟩
  simp [lim] at hl; simp only [maxLen]; omega
 refine WL.op (fun v w' => v = .slice (some ⟨w.heap.size, 0, none⟩) s.length (grownCap w s.length 0 e) ∧ w' = Lib.bytesWorld w e ⟨s.toArray⟩) (Does.val (v := .slice (some ⟨w.heap.size, 0, none⟩) s.length (grownCap w s.length 0 e)) ?_ ⟨rfl, rfl⟩) (fun v w' ⟨h1, h2⟩ => ?_) hd
 ·rw [vs_size] at hrun
  simp [execOp, hx, vs, hrun]
 ·subst h1; subst h2
  have := hk (some ⟨w.heap.size, 0, none⟩) (grownCap w s.length 0 e) H' _ hle ⟨by rw [hlen]; exact hcap.1, hcap.2, fun _ => ⟨_, 0, rfl, fun j z hj => ?_⟩⟩ hst
  ·rwa [hlen] at this
  ·refine ⟨_, _, rfl, [.int .u8 z], rfl, fun i v hv => ?_⟩
   have hi : i = 0 := by
    rcases Nat.eq_zero_or_pos i with h | h
    ·exact h
    ·rw [List.getElem?_eq_none (by simp; omega)] at hv; cases hv
   subst hi
   simp at hv; subst hv
   simp only [bytesI, List.getElem?_map, Option.map_eq_some_iff] at hj
   obtain ⟨bt, hb, rfl⟩ := hj
   have hlt : j < s.length := (List.getElem?_eq_some_iff.1 hb).1
   simp only [hc, hg, eInt, Nat.mul_one, Nat.zero_add, Nat.add_zero, Lib.bytesCells]
   rw [Array.getElem?_append_left (by simp; exact hlt)]
   simp [hb]
theorem St.row0 (h : St w0 H0 M0 H O w) {p : Own} (k : Nat) (hk : O k = some p) : St w0 H0 M0 H (ol [(0, p)]) w := by
 have h1 := (h.drop (fun j => if j = k then O j else none) fun j q hj => by
  split at hj
  ·exact hj
  ·cases hj)
 refine ⟨h1.sub, h1.le, h1.new_, fun j q hj => ?_, fun j q g hj => ?_, fun j i q t g hj hi _ _ => ?_, h1.fr, h1.sz, h1.os, h1.tape, h1.output⟩
 ·simp only [ol, List.lookup] at hj
  split at hj
  ·next e => simp only [Option.some.injEq] at hj; subst hj; exact h.ok k p hk
  ·cases hj
 ·simp only [ol, List.lookup] at hj
  split at hj
  ·next e => simp only [Option.some.injEq] at hj; subst hj; exact fun hg => h.own k p g hk hg
  ·cases hj
 ·simp only [ol, List.lookup] at hj hi
  split at hj
  ·next e =>
   split at hi
   ·next e2 => simp at e e2; omega
   ·cases hi
  ·cases hj
theorem St.ldBlk {t : TypeId} {g i m : Nat} (h : St w0 H0 M0 H O w) (k : Nat) {cs us : List Value} {e : TypeId} (hk : O k = some (.blk g cs e)) (ht : tyAgg P t = some m) (hv : (cs.drop i).take m = us) (hl : us.length = m) : (loadVar t ⟨g, i, none⟩).run P w = .ok (.agg us.toArray) w :=
 run_loadVar_agg ht hl fun j v hj => by
  rw [addr_add]
  refine h.cell hk ?_
  subst hv
  rw [List.getElem?_take] at hj
  split at hj
  ·rwa [List.getElem?_drop] at hj
  ·cases hj
/-- slices.Clone, as data. -/
def cloneM {α : Type} (xs : List α) : Option (List α) := bif lim xs.length then some xs else none
end
end Go.Sw

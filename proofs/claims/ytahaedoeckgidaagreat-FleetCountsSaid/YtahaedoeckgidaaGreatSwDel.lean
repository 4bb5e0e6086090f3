/- slices.Delete: a row of the caller's own, cut in place. -/
import Derived.Test.YtahaedoeckgidaaGreatSwObj
set_option linter.unusedVariables false
set_option linter.unusedSimpArgs false
namespace Go.Sw
section
variable {P : Program} {n : Nat} {N R : Cont} {r : Regs} {w : World} {ops : Array Oper} {rest : List Oper} {d : Nat} {dst : Option Tmp} {gd : Option (Nat × Bool)} {ty : TypeId} {pos : String} {after : Array Edge}
variable {w0 : World} {H0 : IHeap} {M0 : List Nat} {H : IHeap} {O : OHeap}
/-- s[i:j:len(s)]. -/
theorem x_sl3 {α : Type} {xs : List α} {xt : TypeId} {x lo hi mx : Operand} {A : Option Addr} {c size : Nat} {a b m : Int} {k k' k'' : IntKind} (ht : slEl P xt = some size) (hx : rv r x = .slice A xs.length c) (hc : xs.length ≤ c) (hl : rv r lo = .int k a) (hh : rv r hi = .int k' b) (hm : rv r mx = .int k'' m) (hme : m = (xs.length : Int)) (hok : cutOk a b xs.length = true) :
  (execOp (rv r) ⟨dst, .slice xt x (some lo) (some hi) (some mx), ty, pos, after, gd⟩).run P w = .ok (.value (.slice (sufA A a.toNat size xs.length) (b.toNat - a.toNat) (xs.length - a.toNat))) w := by
 simp [cutOk] at hok
 obtain ⟨el, hu, hs⟩ := slEl_some ht
 subst hme
 have h0 : (0 : Int) ≤ (xs.length : Int) := by omega
 have h1 : (xs.length : Int) ≤ (c : Int) := by omega
 have h3 : 0 ≤ b := by omega
 have h5 : a ≤ max b 0 := by omega
 have h6 : ¬ c < xs.length := by omega
 have h7 : b ≤ max (xs.length : Int) 0 := by omega
 simp [execOp, Instr.sliceAt, Instr.slice, Instr.sliceBounds, Instr.sliceBound, hx, hl, hh, hm, run_underlying hu, asIntOf, hok.1.1, hok.2, h0, h1, h3, h5, h6, h7, hs, sufA]
theorem splice_eq (us : List Value) (cs : List Value) (i : Nat) (h : i + us.length ≤ cs.length) : splice cs i us = cs.take i ++ (us ++ cs.drop (i + us.length)) := by
 apply List.ext_getElem?
 intro j
 rw [getElem?_splice _ _ _ _ h, List.getElem?_append, List.length_take, Nat.min_eq_left (by omega)]
 by_cases h1 : j < i
 ·rw [if_neg (by omega), if_pos h1, List.getElem?_take, if_pos h1]
 ·rw [if_neg h1, List.getElem?_append]
  by_cases h2 : j < i + us.length
  ·rw [if_pos (by omega), if_pos (by omega)]
  ·rw [if_neg (by omega), if_neg (by omega), List.getElem?_drop]; congr 1; omega
theorem Rows.drop {α : Type} {en : Enc α} {cells : List Value} {xs : List α} (h : Rows en H cells xs) (q : Nat) (hq : q ≤ xs.length) : Rows en H (cells.drop (q * en.size)) (xs.drop q) := by
 refine ⟨by rw [List.length_drop, List.length_drop, h.1, Nat.sub_mul], fun j x hj => ?_⟩
 rw [List.getElem?_drop] at hj
 obtain ⟨ecs, hr, hi⟩ := h.2 _ x hj
 refine ⟨ecs, hr, fun i v hv => ?_⟩
 rw [List.getElem?_drop, show q * en.size + (j * en.size + i) = (q + j) * en.size + i from by rw [Nat.add_mul]; omega]
 exact hi i v hv
/-- What stands in a row behind append(s[:i], s[j:]...). -/
def moved {α : Type} (xs : List α) (i j : Nat) : List α := xs.take i ++ (xs.drop j ++ xs.drop (i + (xs.length - j)))
theorem o_appCut {α : Type} {en : Enc α} {t tx e : TypeId} {bytes : Nat} {zs : List Value} {X Y : Operand} {A : Option Addr} {c i j : Nat} {cells : List Value} {xs : List α} (k : Nat) (hO : St w0 H0 M0 H O w) (hk' : O k = some (.row A c e en.size xs.length cells)) (hr : Rows en H cells xs) (hij : i ≤ j) (hj : j ≤ xs.length) (hn : 0 < xs.length)
  (hx : rv r X = .slice A i c) (hy : rv r Y = .slice (sufA A j en.size c) (xs.length - j) (c - j)) (hi : slInfo P t = some (e, en.size, bytes, zs)) (hu : P.underlying tx = some (.slice e))
  (hk : ∀ cells' w', Rows en H cells' (moved xs i j) → St w0 H0 M0 H (oup O k (some (.row A c e en.size (moved xs i j).length cells'))) w' → WL P n ops rest N (upd r d (.slice A (i + (xs.length - j)) c)) w') (hd : Nat.blt d n = true := by rfl) :
  WL P n ops (⟨some d, .call ⟨.builtin .append, #[X, Y], #[t, tx]⟩, ty, pos, after, none⟩ :: rest) N r w := by
 obtain ⟨hut, ii, z, hinf, hz, hsz, hbs, hcz, hzl, hpos⟩ := slInfo_spec hi
 obtain ⟨q1, q2, q3, q4, q5⟩ := hO.ok k _ hk'
 have hc : c ≠ 0 := by omega
 obtain ⟨g, o, cur, hA, hh, hlen, hat⟩ := q5.resolve_left hc
 have hsz' : ∀ w, (sizeOf e).run P w = .ok en.size w := fun w => run_sizeOf (by simp [tySize, hinf, hsz])
 have hus : (cells.drop (j * en.size)).length = (xs.length - j) * en.size := by rw [List.length_drop, q1, Nat.sub_mul]
 have hle : i * en.size + (xs.length - j) * en.size ≤ xs.length * en.size := by rw [← Nat.add_mul]; exact Nat.mul_le_mul_right _ (by omega)
 have hml : (moved xs i j).length = xs.length := by simp [moved]; omega
 have hsrc : Src w (sufA A j en.size c) (xs.length - j) en.size (cells.drop (j * en.size)) := by
  refine ⟨hus, fun v hv => q4 v (List.mem_of_mem_drop hv), ?_⟩
  by_cases hjn : xs.length - j = 0
  ·exact .inl hjn
  ·refine .inr ⟨g, o + j * en.size, by simp [sufA, hA, addr_add, show c ≠ j from by omega], fun q v hv => ?_⟩
   rw [List.getElem?_drop] at hv
   rw [Nat.add_assoc]
   exact row_cell hO hk' hA hc hv
 obtain ⟨w', hrun, hst⟩ := run_store_row (P := P) (i := i * en.size) (us := cells.drop (j * en.size)) hO hk' hc hA (by rw [hus, q1]; omega) hsrc.2.1
 have hrows : Rows en H (splice cells (i * en.size) (cells.drop (j * en.size))) (moved xs i j) := by
  rw [splice_eq _ _ _ (by rw [hus, q1]; omega), hus, ← Nat.add_mul]
  exact (hr.take i (by omega)).app ((hr.drop j hj).app (hr.drop _ (by omega)))
 refine WL.op (fun v w'' => v = .slice A (i + (xs.length - j)) c ∧ w'' = w') (Does.val (v := .slice A (i + (xs.length - j)) c) ?_ ⟨rfl, rfl⟩)
  (fun v w'' ⟨h1, h2⟩ => by subst h1; subst h2; exact hk _ _ hrows (by rw [hml]; exact hst)) hd
 have hr1 := hsrc.run (P := P) (c := c - j)
 have hfit : i + (xs.length - j) ≤ c := by omega
 subst hA
 simp [execOp, resolve, invoke, builtin, hx, hy, Builtin.append_, run_underlying hut, run_underlying hu, hsz', Builtin.lenOf, hr1, hfit, addr_add, hrun]
theorem moved_cut {α : Type} {xs : List α} {i j : Nat} (hij : i ≤ j) (hj : j ≤ xs.length) : lcut (moved xs i j) 0 ((i + (xs.length - j) : Nat) : Int) = xs.take i ++ xs.drop j := by
 simp only [lcut, Int.toNat_natCast, Int.toNat_zero, List.drop_zero, moved]
 rw [← List.append_assoc]
 apply List.take_left'
 simp; omega
theorem moved_all {α : Type} {xs : List α} {i j : Nat} (hij : i ≤ j) (hj : j ≤ xs.length) : (moved xs i j).length = xs.length := by simp [moved]; omega
/-- s[len(s):old]: the tail that is cleared. -/
theorem x_slTail {α : Type} {ys : List α} {xt : TypeId} {x lo hi : Operand} {A : Option Addr} {c size m : Nat} {a b : Int} {k k' : IntKind} (ht : slEl P xt = some size) (hx : rv r x = .slice A m c) (hl : rv r lo = .int k a) (hh : rv r hi = .int k' b) (hc : ys.length ≤ c) (hb : b = (ys.length : Int)) (hok : cutOk a (ys.length : Int) ys.length = true) (hm : m ≤ c) :
  (execOp (rv r) ⟨dst, .slice xt x (some lo) (some hi) none, ty, pos, after, gd⟩).run P w = .ok (.value (.slice (sufA A a.toNat size c) (lcut ys a (ys.length : Int)).length (c - a.toNat))) w := by
 rw [lcut_len ys hok]
 simp [cutOk] at hok
 subst hb
 obtain ⟨el, hu, hs⟩ := slEl_some ht
 have h2 : (ys.length : Int) ≤ (c : Int) := by omega
 have h6 : ¬ c < ys.length := by omega
 simp [h6, execOp, Instr.sliceAt, Instr.slice, Instr.sliceBounds, Instr.sliceBound, hx, hl, hh, run_underlying hu, asIntOf, hok.1, h2, hok.2, hs, sufA]
theorem x_pre {α : Type} {xs : List α} {xt : TypeId} {x hi : Operand} {A : Option Addr} {c size g o : Nat} {k : IntKind} {b : Int} (ht : slEl P xt = some size) (hA : A = some ⟨g, o, none⟩) (hx : rv r x = .slice A xs.length c) (hc : xs.length ≤ c) (hh : rv r hi = .int k b) (hok : cutOk 0 b xs.length = true) :
  (execOp (rv r) ⟨dst, .slice xt x none (some hi) none, ty, pos, after, gd⟩).run P w = .ok (.value (.slice A (lcut xs 0 b).length c)) w := by
 rw [x_slh ht hx hc hh hok]
 simp [sufA, hA, addr_add]
theorem o_appCutI {α : Type} {en : Enc α} {t tx e : TypeId} {bytes : Nat} {zs : List Value} {X Y : Operand} {A : Option Addr} {c : Nat} {i j : Int} {cells : List Value} {xs : List α} (k : Nat) (hO : St w0 H0 M0 H O w) (hk' : O k = some (.row A c e en.size xs.length cells)) (hr : Rows en H cells xs) (hok : cutOk i j xs.length = true) (hne : (i == j) = false)
  (hx : rv r X = .slice A (lcut xs 0 i).length c) (hy : rv r Y = .slice (sufA A j.toNat en.size c) (lcut xs j (xs.length : Int)).length (c - j.toNat)) (hi : slInfo P t = some (e, en.size, bytes, zs)) (hu : P.underlying tx = some (.slice e))
  (hk : ∀ cells' w', Rows en H cells' (moved xs i.toNat j.toNat) → St w0 H0 M0 H (oup O k (some (.row A c e en.size (moved xs i.toNat j.toNat).length cells'))) w' → WL P n ops rest N (upd r d (.slice A (xs.take i.toNat ++ xs.drop j.toNat).length c)) w') (hd : Nat.blt d n = true := by rfl) :
  WL P n ops (⟨some d, .call ⟨.builtin .append, #[X, Y], #[t, tx]⟩, ty, pos, after, none⟩ :: rest) N r w := by
 have hok2 := hok
 simp [cutOk] at hok2
 have hne' : i ≠ j := by simpa using hne
 have h1 : (lcut xs 0 i).length = i.toNat := by simp [lcut]; omega
 have h2 : (lcut xs j (xs.length : Int)).length = xs.length - j.toNat := by simp [lcut]
 refine o_appCut (i := i.toNat) (j := j.toNat) k hO hk' hr (by omega) (by omega) (by omega) (by rw [hx, h1]) (by rw [hy, h2]) hi hu (fun cells' w' h3 h4 => ?_) hd
 have h5 : (xs.take i.toNat ++ xs.drop j.toNat).length = i.toNat + (xs.length - j.toNat) := by simp; omega
 have := hk cells' w' h3 h4
 rwa [h5] at this
theorem cutOkP {i j : Int} {m : Nat} (h : cutOk i j m = true) : cutOk 0 i m = true := by simp [cutOk] at h ⊢; omega
theorem cutOkS {i j : Int} {m : Nat} (h : cutOk i j m = true) : cutOk j (m : Int) m = true := by simp [cutOk] at h ⊢; omega
def deleteM {α : Type} (xs : List α) (i j : Int) : Option (List α) := bif cutOk i j xs.length then some (xs.take i.toNat ++ xs.drop j.toNat) else none
theorem delete_eq {α : Type} {xs : List α} {i j : Int} (hok : cutOk i j xs.length = true) (he : (i == j) = true) : xs.take i.toNat ++ xs.drop j.toNat = xs := by
 have : i = j := by simpa using he
 subst this; exact List.take_append_drop _ _
theorem delete_tail {α : Type} {xs : List α} {i j : Int} (hok : cutOk i j xs.length = true) : cutOk ((xs.take i.toNat ++ xs.drop j.toNat).length : Int) ((moved xs i.toNat j.toNat).length : Int) (moved xs i.toNat j.toNat).length = true ∧ (moved xs i.toNat j.toNat).length = xs.length ∧ lcut (moved xs i.toNat j.toNat) 0 ((xs.take i.toNat ++ xs.drop j.toNat).length : Int) = xs.take i.toNat ++ xs.drop j.toNat := by
 simp [cutOk] at hok
 have hm := moved_all (xs := xs) (i := i.toNat) (j := j.toNat) (by omega) (by omega)
 have h5 : (xs.take i.toNat ++ xs.drop j.toNat).length = i.toNat + (xs.length - j.toNat) := by simp; omega
 refine ⟨by rw [hm, h5]; simp [cutOk]; omega, hm, ?_⟩
 rw [h5]
 exact moved_cut (by omega) (by omega)
end
end Go.Sw

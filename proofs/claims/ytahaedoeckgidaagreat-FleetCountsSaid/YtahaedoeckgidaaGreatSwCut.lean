/- Slices cut; clear; the library's sort. -/
import Derived.Test.YtahaedoeckgidaaGreatSwOwn
import Derived.Shelf.Sort.AssemblyIn
import Derived.Sort.EveryDepth
set_option linter.unusedVariables false
set_option linter.unusedSimpArgs false
namespace Go.Sw
section
variable {P : Program} {n : Nat} {N R : Cont} {r : Regs} {w : World} {ops : Array Oper} {rest : List Oper} {d : Nat} {dst : Option Tmp} {gd : Option (Nat × Bool)} {ty : TypeId} {pos : String} {after : Array Edge}
variable {w0 : World} {H0 : IHeap} {M0 : List Nat} {H : IHeap} {O : OHeap}
/-- Where a slice that is cut begins. -/
def sufA (A : Option Addr) (l size c : Nat) : Option Addr := if c = l then A else A.map (·.add (l * size))
def lcut {α : Type} (xs : List α) (a b : Int) : List α := (xs.take b.toNat).drop a.toNat
theorem lcut_len {α : Type} (xs : List α) {a b : Int} (h : cutOk a b xs.length = true) : (lcut xs a b).length = b.toNat - a.toNat := by
 simp [cutOk] at h
 simp [lcut]; omega
theorem RS.cut {α : Type} {e : Enc α} {A : Option Addr} {c : Nat} {xs : List α} (h : RS e H A c xs) {a b : Int} (hok : cutOk a b xs.length = true) : RS e H (sufA A a.toNat e.size c) (c - a.toNat) (lcut xs a b) := by
 have hl := lcut_len xs hok
 simp [cutOk] at hok
 refine ⟨by rw [hl]; have := h.1; omega, by have := h.2.1; omega, fun hn => ?_⟩
 have hne : (lcut xs a b).length ≠ 0 := fun h0 => hn (List.eq_nil_of_length_eq_zero h0)
 have hx : xs ≠ [] := fun h0 => by subst h0; simp [lcut] at hn
 obtain ⟨q, o, rfl, hat⟩ := h.2.2 hx
 have h1 := h.1
 refine ⟨q, o + a.toNat * e.size, ?_, fun j x hj => ?_⟩
 ·unfold sufA
  rw [if_neg (by omega)]
  simp [addr_add]
 ·have : xs[a.toNat + j]? = some x := by
   simp only [lcut, List.getElem?_drop] at hj
   rw [List.getElem?_take] at hj
   split at hj
   ·exact hj
   ·cases hj
  have := hat _ x this
  rwa [show o + (a.toNat + j) * e.size = o + a.toNat * e.size + j * e.size from by rw [Nat.add_mul]; omega] at this
section
variable {xt : TypeId} {x lo hi : Operand} {A : Option Addr} {c m size : Nat} {a b : Int} {k k' : IntKind}
theorem slEl_some (ht : slEl P xt = some size) : ∃ el, P.underlying xt = some (.slice el) ∧ ∀ w, (sizeOf el).run P w = .ok size w := by
 unfold slEl at ht
 split at ht
 ·next el hu =>
  cases hinf : P.info? el with
  | none => rw [hinf] at ht; cases ht
  | some inf => rw [hinf] at ht; simp at ht; subst ht; exact ⟨el, hu, fun w => by simp [sizeOf, typeInfo, hinf]⟩
 ·cases ht
theorem x_slh {α : Type} {xs : List α} (ht : slEl P xt = some size) (hx : rv r x = .slice A xs.length c) (hc : xs.length ≤ c) (hh : rv r hi = .int k b) (hok : cutOk 0 b xs.length = true) :
  (execOp (rv r) ⟨dst, .slice xt x none (some hi) none, ty, pos, after, gd⟩).run P w = .ok (.value (.slice (sufA A (0 : Int).toNat size c) (lcut xs 0 b).length (c - (0 : Int).toNat))) w := by
 rw [lcut_len xs hok]
 simp [cutOk] at hok
 obtain ⟨el, hu, hs⟩ := slEl_some ht
 have h2 : b ≤ (c : Int) := by omega
 simp [execOp, Instr.sliceAt, Instr.slice, Instr.sliceBounds, Instr.sliceBound, hx, hh, run_underlying hu, asIntOf, hok.1, h2, hs, sufA]
theorem x_sll {α : Type} {xs : List α} (ht : slEl P xt = some size) (hx : rv r x = .slice A xs.length c) (hc : xs.length ≤ c) (hl : rv r lo = .int k a) (hok : cutOk a (xs.length : Int) xs.length = true) :
  (execOp (rv r) ⟨dst, .slice xt x (some lo) none none, ty, pos, after, gd⟩).run P w = .ok (.value (.slice (sufA A a.toNat size c) (lcut xs a (xs.length : Int)).length (c - a.toNat))) w := by
 rw [lcut_len xs hok]
 simp [cutOk] at hok
 obtain ⟨el, hu, hs⟩ := slEl_some ht
 simp [execOp, Instr.sliceAt, Instr.slice, Instr.sliceBounds, Instr.sliceBound, hx, hl, run_underlying hu, asIntOf, hok.1, hok.2, hs, sufA]
theorem x_sllh {α : Type} {xs : List α} (ht : slEl P xt = some size) (hx : rv r x = .slice A xs.length c) (hc : xs.length ≤ c) (hl : rv r lo = .int k a) (hh : rv r hi = .int k' b) (hok : cutOk a b xs.length = true) :
  (execOp (rv r) ⟨dst, .slice xt x (some lo) (some hi) none, ty, pos, after, gd⟩).run P w = .ok (.value (.slice (sufA A a.toNat size c) (lcut xs a b).length (c - a.toNat))) w := by
 rw [lcut_len xs hok]
 simp [cutOk] at hok
 obtain ⟨el, hu, hs⟩ := slEl_some ht
 have h2 : b ≤ (c : Int) := by omega
 have h3 : 0 ≤ b := by omega
 have h4 : ¬ max b 0 < a := by omega
 have h5 : a ≤ max b 0 := by omega
 simp [execOp, Instr.sliceAt, Instr.slice, Instr.sliceBounds, Instr.sliceBound, hx, hl, hh, run_underlying hu, asIntOf, hok.1.1, h2, h3, h4, h5, hs, sufA]
end
theorem row_le {k : Nat} {A : Option Addr} {c size m : Nat} {e : TypeId} {cells : List Value} (hO : St w0 H0 M0 H O w) (hk : O k = some (.row A c e size m cells)) : m ≤ c := (hO.ok k _ hk).2.1
theorem Chg.rfl' (w : World) (S : Nat → Prop) : Chg w w S := ⟨rfl, rfl, rfl, Nat.le_refl _, fun _ _ _ => rfl⟩
/-- A row's tail is forgotten. -/
theorem St.shrink (h : St w0 H0 M0 H O w) {k : Nat} {A : Option Addr} {c size m m' : Nat} {e : TypeId} {cells : List Value} (hk : O k = some (.row A c e size m cells)) (hm : m' ≤ m) : St w0 H0 M0 H (oup O k (some (.row A c e size m' (cells.take (m' * size))))) w := by
 obtain ⟨q1, q2, q3, q4, q5⟩ := h.ok k _ hk
 have hle : m' * size ≤ m * size := Nat.mul_le_mul_right _ hm
 refine h.put k _ (fun _ => False) (Chg.rfl' _ _) (fun _ h => h.elim) ⟨by rw [List.length_take, q1]; omega, by omega, q3, fun v hv => q4 v (List.mem_of_mem_take hv), ?_⟩ (fun g hg => .inr ⟨_, hk, hg⟩)
 rcases q5 with q5 | ⟨g, o, cur, hA, hh, hlen, hat⟩
 ·exact .inl q5
 ·refine .inr ⟨g, o, cur, hA, hh, hlen, fun i v hv => hat i v ?_⟩
  rw [List.getElem?_take] at hv
  split at hv
  ·exact hv
  ·cases hv
theorem Rows.take {α : Type} {en : Enc α} {cells : List Value} {xs : List α} (h : Rows en H cells xs) (q : Nat) (hq : q ≤ xs.length) : Rows en H (cells.take (q * en.size)) (xs.take q) := by
 have hle : q * en.size ≤ xs.length * en.size := Nat.mul_le_mul_right _ hq
 refine ⟨by rw [List.length_take, List.length_take, h.1, Nat.min_eq_left hle, Nat.min_eq_left hq], fun j x hj => ?_⟩
 rw [List.getElem?_take] at hj
 split at hj
 ·next hlt =>
  obtain ⟨ecs, hr, hi⟩ := h.2 j x hj
  refine ⟨ecs, hr, fun i v hv => ?_⟩
  have hil := (List.getElem?_eq_some_iff.1 hv).1
  rw [en.len hr] at hil
  have : (j + 1) * en.size ≤ q * en.size := Nat.mul_le_mul_right _ hlt
  rw [Nat.succ_mul] at this
  rw [List.getElem?_take, if_pos (by omega)]
  exact hi i v hv
 ·cases hj
theorem zeros_ok {zero : Array Value} {zs : List Value} {q size : Nat} (hz : zero.toList = zs) (hl : zs.length = size) (hp : 0 < size) (h1 : zs.all (·.oneCell') = true) :
  (Builtin.zeroCells zero q).toList.length = q * size ∧ ∀ u ∈ (Builtin.zeroCells zero q).toList, u.oneCell' = true := by
 have hs : zero.size = size := by rw [← hl, ← hz]; simp
 refine ⟨by simp [Builtin.zeroCells, hs], fun u hu => ?_⟩
 simp only [Builtin.zeroCells, Array.toList_map, List.mem_map] at hu
 obtain ⟨j, _, rfl⟩ := hu
 have hlt : j % zero.size < zero.size := Nat.mod_lt _ (by omega)
 have : zero[j % zero.size]! ∈ zs := by
  rw [getElem!_pos zero _ hlt, ← hz]
  simp
 exact List.all_eq_true.1 h1 _ this
/-- clear(s[i:]): the tail's cells turn, and are forgotten. -/
theorem o_clear {α : Type} {en : Enc α} {t e : TypeId} {bytes : Nat} {zs : List Value} {X : Operand} {A : Option Addr} {c : Nat} {cells : List Value} {xs : List α} {b : Int} (k : Nat) (hO : St w0 H0 M0 H O w) (hk' : O k = some (.row A c e en.size xs.length cells)) (hr : Rows en H cells xs)
  (hx : rv r X = .slice (sufA A b.toNat en.size c) (lcut xs b (xs.length : Int)).length (c - b.toNat)) (hi : slInfo P t = some (e, en.size, bytes, zs)) (hz1 : zs.all (·.oneCell') = true) (hok : cutOk b (xs.length : Int) xs.length = true)
  (hk : ∀ cells' w', Rows en H cells' (lcut xs 0 b) → St w0 H0 M0 H (oup O k (some (.row A c e en.size (lcut xs 0 b).length cells'))) w' → WL P n ops rest N r w') :
  WL P n ops (⟨none, .call ⟨.builtin .clear, #[X], #[t]⟩, ty, pos, after, none⟩ :: rest) N r w := by
 obtain ⟨hut, i, z, hinf, hz, hsz, hby, hcz, hzl, hpos⟩ := slInfo_spec hi
 have hok' := hok
 simp [cutOk] at hok'
 have hb : b.toNat ≤ xs.length := by omega
 have hlen := lcut_len xs hok
 have hlt : lcut xs 0 b = xs.take b.toNat := by simp [lcut]
 have hlt2 : (xs.take b.toNat).length = b.toNat := by rw [List.length_take]; omega
 have main : ∃ w' cells', (Builtin.clear_ #[t] ty #[rv r X]).run P w = .ok (.tuple #[]) w' ∧ Rows en H cells' (xs.take b.toNat) ∧ St w0 H0 M0 H (oup O k (some (.row A c e en.size b.toNat cells'))) w' := by
  by_cases h0 : (lcut xs b (xs.length : Int)).length = 0
  ·refine ⟨w, _, ?_, hr.take _ hb, hO.shrink hk' hb⟩
   rw [hx, h0]
   cases sufA A b.toNat en.size c <;> simp [Builtin.clear_, run_underlying hut]
  ·obtain ⟨q1, q2, q3, q4, q5⟩ := hO.ok k _ hk'
   have hc : c ≠ 0 := by omega
   obtain ⟨g, o, cur, hA, hh, hlen', hat⟩ := q5.resolve_left hc
   have hbc : c ≠ b.toNat := by omega
   have hs : sufA A b.toNat en.size c = some ⟨g, o + b.toNat * en.size, none⟩ := by simp [sufA, hbc, hA, addr_add]
   obtain ⟨hzl2, hz12⟩ := zeros_ok (q := (lcut xs b (xs.length : Int)).length) (zero := z.cells) (zs := zs) hcz hzl hpos hz1
   have hm : b.toNat * en.size + (xs.length - b.toNat) * en.size = xs.length * en.size := by rw [← Nat.add_mul]; congr 1; omega
   have hfit : b.toNat * en.size + (Builtin.zeroCells z.cells (lcut xs b (xs.length : Int)).length).toList.length ≤ cells.length := by
    rw [hzl2, hlen, q1, Int.toNat_natCast]; omega
   obtain ⟨w', hrun, hst⟩ := run_store_row (P := P) hO hk' hc hA hfit hz12
   refine ⟨w', (splice cells (b.toNat * en.size) (Builtin.zeroCells z.cells (lcut xs b (xs.length : Int)).length).toList).take (b.toNat * en.size), ?_, ?_, ?_⟩
   ·rw [hx, hs]
    obtain ⟨m, hm'⟩ := Nat.exists_eq_succ_of_ne_zero h0
    rw [hm'] at hrun ⊢
    simp [Builtin.clear_, run_underlying hut, zeroValue, typeInfo, hinf, hz, hrun]
   ·have : (splice cells (b.toNat * en.size) (Builtin.zeroCells z.cells (lcut xs b (xs.length : Int)).length).toList).take (b.toNat * en.size) = cells.take (b.toNat * en.size) := by
     apply List.ext_getElem?
     intro j
     rw [List.getElem?_take, List.getElem?_take]
     split
     ·next hj => rw [getElem?_splice _ _ _ _ hfit, if_neg (by omega)]
     ·rfl
    rw [this]
    exact hr.take _ hb
   ·have := hst.shrink (m' := b.toNat) (oup_same _ _ _) hb
    have e2 : oup (oup O k (some (Own.row A c e en.size xs.length (splice cells (b.toNat * en.size) (Builtin.zeroCells z.cells (lcut xs b (xs.length : Int)).length).toList)))) k (some (Own.row A c e en.size b.toNat ((splice cells (b.toNat * en.size) (Builtin.zeroCells z.cells (lcut xs b (xs.length : Int)).length).toList).take (b.toNat * en.size)))) = oup O k (some (Own.row A c e en.size b.toNat ((splice cells (b.toNat * en.size) (Builtin.zeroCells z.cells (lcut xs b (xs.length : Int)).length).toList).take (b.toNat * en.size)))) := by
     funext j
     by_cases hj : k = j
     ·subst hj; rw [oup_same, oup_same]
     ·rw [oup_ne _ _ hj, oup_ne _ _ hj, oup_ne _ _ hj]
    rwa [e2] at this
 obtain ⟨w', cells', h1, h2, h3⟩ := main
 refine WL.op0 (fun _ w'' => w'' = w') ?_ (fun _ w'' hw => by
  subst hw
  refine hk cells' _ (by rw [hlt]; exact h2) ?_
  rw [hlt, hlt2]; exact h3)
 unfold Does
 simp [execOp, resolve, invoke, builtin, h1]
/-! ### the library's sort -/
end
end Go.Sw

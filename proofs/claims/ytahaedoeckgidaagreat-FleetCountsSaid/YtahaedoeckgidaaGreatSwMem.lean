/- Rules for the operations that read and write memory. -/
import Derived.Test.YtahaedoeckgidaaGreatSwHeap
set_option linter.unusedVariables false
set_option linter.unusedSimpArgs false
namespace Go.Sw
/-! ### types -/
def tyOne (P : Program) (t : TypeId) : Bool :=
 match P.underlying t with
 | some (.struct _) | some (.array _ _) | none => false
 | some _ => true
def tyAgg (P : Program) (t : TypeId) : Option Nat :=
 match P.underlying t with
 | some (.struct _) | some (.array _ _) => (P.info? t).map (·.size)
 | _ => none
def tySize (P : Program) (t : TypeId) : Option Nat := (P.info? t).map (·.size)
def fieldOff (P : Program) (t : TypeId) (f : Nat) : Option Nat :=
 match P.underlying t with
 | some (.struct fs) =>
  match fs[f]? with
  | some fl => match P.info? fl.type with
   | some i => if i.size = 0 then none else some fl.offset
   | none => none
  | none => none
 | _ => none
def slEl (P : Program) (t : TypeId) : Option Nat :=
 match P.underlying t with
 | some (.slice e) => (P.info? e).map (·.size)
 | _ => none
def arEl (P : Program) (t : TypeId) : Option (Nat × Nat) :=
 match P.underlying t with
 | some (.array n e) => (P.info? e).map fun i => (n, i.size)
 | _ => none
section
variable {P : Program} {w : World}
theorem run_isAgg_one {t : TypeId} (h : tyOne P t = true) : (isAgg t).run P w = .ok false w := by
 unfold tyOne at h
 unfold isAgg
 cases hu : P.underlying t with
 | none => rw [hu] at h; cases h
 | some u =>
  rw [hu] at h
  simp only [Sem.run_bind, run_underlying hu, Result.andThen_ok]
  cases u <;> simp_all
theorem run_isAgg_agg {t : TypeId} {n : Nat} (h : tyAgg P t = some n) : (isAgg t).run P w = .ok true w ∧ (sizeOf t).run P w = .ok n w := by
 unfold tyAgg at h
 cases hu : P.underlying t with
 | none => rw [hu] at h; cases h
 | some u =>
  rw [hu] at h
  cases hi : P.info? t with
  | none => rw [hi] at h; cases u <;> simp at h
  | some i =>
   rw [hi] at h
   constructor
   ·unfold isAgg
    simp only [Sem.run_bind, run_underlying hu, Result.andThen_ok]
    cases u <;> simp_all
   ·have : i.size = n := by cases u <;> simp_all
    subst this
    simp [sizeOf, typeInfo, hi]
theorem run_sizeOf {t : TypeId} {n : Nat} (h : tySize P t = some n) : (sizeOf t).run P w = .ok n w := by
 unfold tySize at h
 cases hi : P.info? t with
 | none => rw [hi] at h; cases h
 | some i => rw [hi] at h; simp at h; subst h; simp [sizeOf, typeInfo, hi]
theorem run_load {a : Addr} {v : Value} (h : w.cell? a = some v) : (load a).run P w = .ok v w := by simp [load, Sem.run, h]
theorem run_loadVar_one {t : TypeId} {a : Addr} {v : Value} (ht : tyOne P t = true) (h : w.cell? a = some v) : (loadVar t a).run P w = .ok v w := by
 unfold loadVar
 simp only [Sem.run_bind, run_isAgg_one ht, Result.andThen_ok]
 exact run_load h
theorem run_loadCellsFrom {a : Addr} : ∀ (n i : Nat) (acc : Array Value) (cs : List Value), cs.length = n → (∀ j v, cs[j]? = some v → w.cell? (a.add (i + j)) = some v) →
  (loadCellsFrom a i n acc).run P w = .ok (acc ++ cs.toArray) w
 | 0, i, acc, cs, hl, h => by
  obtain rfl : cs = [] := List.eq_nil_of_length_eq_zero hl
  simp [loadCellsFrom]
 | n + 1, i, acc, [], hl, h => by simp at hl
 | n + 1, i, acc, c :: cs, hl, h => by
  unfold loadCellsFrom
  have h0 := h 0 c rfl
  simp only [Sem.run_bind, run_load (P := P) (by simpa using h0), Result.andThen_ok]
  rw [run_loadCellsFrom n (i + 1) (acc.push c) cs (by simpa using hl) (fun j v hj => by have := h (j + 1) v (by simpa using hj); rwa [show i + 1 + j = i + (j + 1) from by omega])]
  simp
theorem run_loadCells {a : Addr} {cs : List Value} {n : Nat} (hl : cs.length = n) (h : ∀ j v, cs[j]? = some v → w.cell? (a.add j) = some v) : (loadCells a n).run P w = .ok cs.toArray w := by
 unfold loadCells
 rw [run_loadCellsFrom n 0 #[] cs hl (fun j v hj => by simpa using h j v hj)]
 simp
theorem run_loadVar_agg {t : TypeId} {n : Nat} {a : Addr} {cs : List Value} (ht : tyAgg P t = some n) (hl : cs.length = n) (h : ∀ j v, cs[j]? = some v → w.cell? (a.add j) = some v) : (loadVar t a).run P w = .ok (.agg cs.toArray) w := by
 unfold loadVar
 simp only [Sem.run_bind, (run_isAgg_agg ht).1, (run_isAgg_agg ht).2, Result.andThen_ok, run_loadCells hl h, if_true]
 simp
theorem addr_add (b o i : Nat) : (⟨b, o, none⟩ : Addr).add i = ⟨b, o + i, none⟩ := by unfold Addr.add; split <;> simp_all
end
section
variable {P : Program} {n : Nat} {N : Cont} {r : Regs} {w : World} {ops : Array Oper} {rest : List Oper} {d : Nat} {dst : Option Tmp} {gd : Option (Nat × Bool)} {ty : TypeId} {pos : String} {after : Array Edge}
variable {w0 : World} {H0 : IHeap} {M0 : List Nat} {H : IHeap} {O : OHeap}
/-! ### new variables -/
theorem World.heap_push (w : World) (o : Obj) : (w.alloc o).heap[w.heap.size]? = some o := heap_alloc_new w o
theorem chg_alloc (w : World) (o : Obj) (S : Nat → Prop) : Chg w (w.alloc o) S :=
 ⟨rfl, rfl, rfl, by simp, fun b hb _ => Go.RowKit.Below.heap_alloc w o b hb⟩
theorem St.alloc (h : St w0 H0 M0 H O w) (k : Nat) (cs : List Value) (e : TypeId) : St w0 H0 M0 H (oup O k (some (.blk w.heap.size cs e))) (w.alloc (.cells cs.toArray e)) :=
 h.put k _ (fun _ => False) (chg_alloc _ _ _) (fun _ h => h.elim) (World.heap_push _ _) (fun g hg => .inl (by simp [Own.ids] at hg; omega))
theorem o_box {e : TypeId} {x : Operand} (k : Nat) (cs : List Value) (hO : St w0 H0 M0 H O w) (hx : (rv r x).cells = cs.toArray)
  (hk : ∀ g w', St w0 H0 M0 H (oup O k (some (.blk g cs e))) w' → WL P n ops rest N (upd r d (.pointer (some ⟨g, 0, none⟩))) w') (hd : Nat.blt d n = true := by rfl) :
  WL P n ops (⟨some d, .box e x, ty, pos, after, none⟩ :: rest) N r w :=
 WL.op (fun v w' => v = .pointer (some ⟨w.heap.size, 0, none⟩) ∧ w' = w.alloc (.cells cs.toArray e))
  (Does.val (v := .pointer (some ⟨w.heap.size, 0, none⟩)) (by simp [execOp, Instr.box, newVar, newRow, newObj, hx, Sem.run]) ⟨rfl, rfl⟩)
  (fun v w' ⟨h1, h2⟩ => by subst h1; subst h2; exact hk _ _ (hO.alloc k cs e)) hd
theorem o_alloc {e : TypeId} (k : Nat) (z : Value) (cs : List Value) (hz : (P.info? e).bind (·.zero) = some z) (hO : St w0 H0 M0 H O w) (hx : z.cells = cs.toArray)
  (hk : ∀ g w', St w0 H0 M0 H (oup O k (some (.blk g cs e))) w' → WL P n ops rest N (upd r d (.pointer (some ⟨g, 0, none⟩))) w') (hd : Nat.blt d n = true := by rfl) :
  WL P n ops (⟨some d, .alloc e, ty, pos, after, none⟩ :: rest) N r w := by
 obtain ⟨i, hi, hz⟩ := Option.bind_eq_some_iff.1 hz
 exact WL.op (fun v w' => v = .pointer (some ⟨w.heap.size, 0, none⟩) ∧ w' = w.alloc (.cells cs.toArray e))
  (Does.val (v := .pointer (some ⟨w.heap.size, 0, none⟩)) (by simp [execOp, Instr.alloc, zeroValue, typeInfo, hi, hz, newVar, newRow, newObj, hx, Sem.run]) ⟨rfl, rfl⟩)
  (fun v w' ⟨h1, h2⟩ => by subst h1; subst h2; exact hk _ _ (hO.alloc k cs e)) hd
/-! ### the call's own blocks: read, written -/
theorem St.cell (h : St w0 H0 M0 H O w) {k g i : Nat} {cs : List Value} {e : TypeId} {v : Value} (hk : O k = some (.blk g cs e)) (hv : cs[i]? = some v) : w.cell? ⟨g, i, none⟩ = some v := by
 have := h.ok k _ hk
 simp only [Own.ok] at this
 simp [World.cell?, this, hv]
theorem x_ld {t : TypeId} {x : Operand} {g i : Nat} (k : Nat) {cs : List Value} {e : TypeId} (v : Value) (hO : St w0 H0 M0 H O w) (hk' : O k = some (.blk g cs e)) (hx : rv r x = .pointer (some ⟨g, i, none⟩))
  (hv : cs[i]? = some v) (ht : tyOne P t = true) : (execOp (rv r) ⟨dst, .load t x, ty, pos, after, gd⟩).run P w = .ok (.value v) w := by
 simp [execOp, Instr.loadAt, hx, Instr.sureAddr, run_loadVar_one ht (hO.cell hk' hv)]
theorem x_lds {t : TypeId} {x : Operand} {g i m : Nat} (k : Nat) {cs : List Value} {e : TypeId} (us : List Value) (hO : St w0 H0 M0 H O w) (hk' : O k = some (.blk g cs e)) (hx : rv r x = .pointer (some ⟨g, i, none⟩))
  (ht : tyAgg P t = some m) (hv : (cs.drop i).take m = us) (hl : us.length = m) : (execOp (rv r) ⟨dst, .load t x, ty, pos, after, gd⟩).run P w = .ok (.value (.agg us.toArray)) w := by
 have := run_loadVar_agg (P := P) (w := w) (a := ⟨g, i, none⟩) ht hl (fun j v hj => by
  rw [addr_add]
  refine hO.cell hk' ?_
  subst hv
  rw [List.getElem?_take] at hj
  split at hj
  ·rwa [List.getElem?_drop] at hj
  ·cases hj)
 simp [execOp, Instr.loadAt, hx, Instr.sureAddr, this]
theorem chg_setCell (w : World) (g i : Nat) (v : Value) : Chg w (w.setCell ⟨g, i, none⟩ v) (fun b => b = g) :=
 ⟨rfl, rfl, rfl, by simp [World.setCell], fun b _ hb => Go.RowKit.Below.heap_setCell w ⟨g, i, none⟩ v b hb⟩
theorem heap_setCell_at {g i : Nat} {cs : List Value} {e : TypeId} (v : Value) (h : w.heap[g]? = some (.cells cs.toArray e (0, 0))) : (w.setCell ⟨g, i, none⟩ v).heap[g]? = some (.cells (cs.set i v).toArray e (0, 0)) := by
 simp [World.setCell, Array.getElem?_modify, h]
theorem St.setBlk (h : St w0 H0 M0 H O w) {k g i : Nat} {cs : List Value} {e : TypeId} (v : Value) (hk : O k = some (.blk g cs e)) :
  St w0 H0 M0 H (oup O k (some (.blk g (cs.set i v) e))) (w.setCell ⟨g, i, none⟩ v) :=
 h.put k _ _ (chg_setCell w g i v) (fun b hb => ⟨_, hk, by subst hb; simp [Own.ids]⟩) (heap_setCell_at v (h.ok k _ hk)) (fun g' hg => .inr ⟨_, hk, hg⟩)
theorem run_store {a : Addr} {u v : Value} (hc : w.cell? a = some u) (hf : w.frozen? a = false) (h1 : v.oneCell' = true) : (store a v).run P w = .ok () (w.setCell a v) := by
 cases v <;> first | (simp [Value.oneCell'] at h1; done) | simp [store, Sem.run, hc, hf]
theorem run_storeVar_one {t : TypeId} {a : Addr} {u v : Value} (ht : tySize P t = some 1) (hc : w.cell? a = some u) (hf : w.frozen? a = false) (h1 : v.oneCell' = true) : (storeVar t a v).run P w = .ok () (w.setCell a v) := by
 have hv : v.cells = #[v] := by cases v <;> first | rfl | (simp [Value.oneCell'] at h1; done)
 unfold storeVar
 simp only [Sem.run_bind, run_sizeOf ht, Result.andThen_ok, hv]
 simp [storeCells, run_store (P := P) (a := a.add 0) (u := u) (by simpa [Addr.add] using hc) (by simpa [Addr.add] using hf) h1]
 simp [Addr.add]
theorem frozen_blk (h : St w0 H0 M0 H O w) {k g i : Nat} {cs : List Value} {e : TypeId} (hk : O k = some (.blk g cs e)) : w.frozen? ⟨g, i, none⟩ = false := by
 have := h.ok k _ hk
 simp only [Own.ok] at this
 simp [World.frozen?, this]
theorem o_st {t : TypeId} {x y : Operand} {g i : Nat} (k : Nat) {cs : List Value} {e : TypeId} {u : Value} (v : Value) (hO : St w0 H0 M0 H O w) (hk' : O k = some (.blk g cs e)) (hx : rv r x = .pointer (some ⟨g, i, none⟩))
  (hy : rv r y = v) (hu : cs[i]? = some u) (ht : tySize P t = some 1) (h1 : v.oneCell' = true)
  (hk : ∀ w', St w0 H0 M0 H (oup O k (some (.blk g (cs.set i v) e))) w' → WL P n ops rest N r w') :
  WL P n ops (⟨none, .store t x y, ty, pos, after, none⟩ :: rest) N r w :=
 WL.op0 (fun _ w' => w' = w.setCell ⟨g, i, none⟩ v)
  (by
   have := run_storeVar_one (P := P) (w := w) ht (hO.cell hk' hu) (frozen_blk hO hk') h1
   unfold Does
   simp [execOp, Instr.storeAt, hx, hy, Instr.sureAddr, this])
  (fun _ w' h2 => by subst h2; exact hk _ (hO.setBlk v hk'))
/-! ### several cells stored -/
def splice (cs : List Value) (i : Nat) : List Value → List Value
 | [] => cs
 | u :: us => splice (cs.set i u) (i + 1) us
theorem splice_length (us : List Value) : ∀ (cs : List Value) (i : Nat), (splice cs i us).length = cs.length := by
 induction us with
 | nil => intro cs i; rfl
 | cons u us ih => intro cs i; rw [splice, ih]; simp
theorem run_storeCells {k g : Nat} {e : TypeId} {off : Nat} : ∀ (us : List Value) (i : Nat) (w : World) (O : OHeap) (cs : List Value), St w0 H0 M0 H O w → O k = some (.blk g cs e) → (∀ u ∈ us, u.oneCell' = true) → off + i + us.length ≤ cs.length →
  ∃ w', (storeCells ⟨g, off, none⟩ us i).run P w = .ok () w' ∧ ∀ O', (∀ j, O' j = if j = k then some (.blk g (splice cs (off + i) us) e) else O j) → St w0 H0 M0 H O' w'
 | [], i, w, O, cs, hO, hk, h1, hl => ⟨w, by simp [storeCells], fun O' hO' => by
   have : O' = O := by
    funext j
    rw [hO' j]
    split
    ·next e => subst e; exact hk.symm
    ·rfl
   rw [this]; exact hO⟩
 | u :: us, i, w, O, cs, hO, hk, h1, hl => by
  have hlt : off + i < cs.length := by simp at hl; omega
  have hst := run_store (P := P) (w := w) (a := ⟨g, off + i, none⟩) (hO.cell hk (List.getElem?_eq_getElem hlt)) (frozen_blk hO hk) (h1 u (by simp))
  obtain ⟨w', hr, hs⟩ := run_storeCells (off := off) us (i + 1) _ _ (cs.set (off + i) u) (hO.setBlk (i := off + i) u hk) (oup_same _ _ _) (fun v hv => h1 v (by simp [hv])) (by simp at hl ⊢; omega)
  refine ⟨w', ?_, fun O' hO' => hs O' fun j => ?_⟩
  ·unfold storeCells
   simp only [Sem.run_bind, addr_add, hst, Result.andThen_ok]
   exact hr
  ·rw [hO' j]
   split
   ·next e => subst e; simp only [splice]; rw [show off + i + 1 = off + (i + 1) from by omega]
   ·next e => rw [oup_ne _ _ (fun h => e h.symm)]
theorem o_sts {t : TypeId} {x y : Operand} {g i m : Nat} (k : Nat) {cs : List Value} {e : TypeId} (us : List Value) (hO : St w0 H0 M0 H O w) (hk' : O k = some (.blk g cs e)) (hx : rv r x = .pointer (some ⟨g, i, none⟩))
  (hy : rv r y = .agg us.toArray) (ht : tySize P t = some m) (hl : us.length = m) (hi : i + m ≤ cs.length) (h1 : ∀ u ∈ us, u.oneCell' = true)
  (hk : ∀ w', St w0 H0 M0 H (oup O k (some (.blk g (splice cs i us) e))) w' → WL P n ops rest N r w') :
  WL P n ops (⟨none, .store t x y, ty, pos, after, none⟩ :: rest) N r w := by
 obtain ⟨w', hr, hs⟩ := run_storeCells (P := P) us 0 w O cs hO hk' h1 (off := i) (by omega)
 refine WL.op0 (fun _ w'' => w'' = w') ?_ (fun _ w'' h2 => by
  subst h2
  refine hk _ (hs _ fun j => ?_)
  by_cases hj : j = k
  ·subst hj; rw [oup_same, if_pos rfl]; rfl
  ·rw [oup_ne _ _ (fun h => hj h.symm), if_neg hj])
 unfold Does
 simp [execOp, Instr.storeAt, hx, hy, Instr.sureAddr, storeVar, Value.cells, run_sizeOf ht, hl, hr]
/-! ### addresses -/
theorem x_fa {xt : TypeId} {x : Operand} {b o f off : Nat} (hx : rv r x = .pointer (some ⟨b, o, none⟩)) (hf : fieldOff P xt f = some off) :
  (execOp (rv r) ⟨dst, .fieldAddr xt x f, ty, pos, after, gd⟩).run P w = .ok (.value (.pointer (some ⟨b, o + off, none⟩))) w := by
 unfold fieldOff at hf
 split at hf
 ·next fs hu =>
  split at hf
  ·next fl hfl =>
   split at hf
   ·next i hi =>
    split at hf
    ·cases hf
    ·next hz =>
     simp at hf; subst hf
     simp [execOp, Instr.fieldAt, hx, run_underlying hu, hfl, Instr.sureAddr, fieldPlace, sizeOf, typeInfo, hi, hz, addr_add]
   ·cases hf
  ·cases hf
 ·cases hf
/-- The address of a field of what nobody writes any more. -/
theorem x_faAt {α : Type} {e : Enc α} {y : α} {xt : TypeId} {x : Operand} {a : Addr} {f off : Nat} (hx : rv r x = .pointer (some a)) (ha : At e H a y) (hf : fieldOff P xt f = some off) :
  (execOp (rv r) ⟨dst, .fieldAddr xt x f, ty, pos, after, gd⟩).run P w = .ok (.value (.pointer (some (a.add off)))) w := by
 obtain ⟨b, o, rfl, _⟩ := id ha
 rw [x_fa hx hf, addr_add]
/-- What stands at an address. -/
theorem At.load1 {α : Type} {e : Enc α} {y : α} {a : Addr} (ha : At e H a y) (h1 : e.size = 1) : ∃ v, e.rep H [v] y ∧ ∀ w, Sub H w → w.cell? a = some v := by
 obtain ⟨b, o, rfl, cs, hr, hc⟩ := ha
 have hl := e.len hr
 rw [h1] at hl
 match cs, hl with
 | [v], _ => exact ⟨v, hr, fun w hw => hw.cell (hc 0 v rfl)⟩
theorem x_ldc {t : TypeId} {x : Operand} {a : Addr} {v : Value} (hx : rv r x = .pointer (some a)) (hc : w.cell? a = some v) (ht : tyOne P t = true) :
  (execOp (rv r) ⟨dst, .load t x, ty, pos, after, gd⟩).run P w = .ok (.value v) w := by simp [execOp, Instr.loadAt, hx, Instr.sureAddr, run_loadVar_one ht hc]
theorem At.int {k : IntKind} {y : Int} {a : Addr} (ha : At (eInt k) H a y) (w : World) (hw : Sub H w) : w.cell? a = some (.int k y) := by
 obtain ⟨v, hr, hc⟩ := ha.load1 rfl
 have : v = .int k y := by simpa [eInt] using hr
 subst this; exact hc w hw
theorem At.bool {y : Bool} {a : Addr} (ha : At eBool H a y) (w : World) (hw : Sub H w) : w.cell? a = some (.bool y) := by
 obtain ⟨v, hr, hc⟩ := ha.load1 rfl
 have : v = .bool y := by simpa [eBool] using hr
 subst this; exact hc w hw
theorem At.str {y : Str} {a : Addr} (ha : At eStr H a y) (w : World) (hw : Sub H w) : w.cell? a = some (vs y) := by
 obtain ⟨v, hr, hc⟩ := ha.load1 rfl
 have : v = vs y := by simpa [eStr] using hr
 subst this; exact hc w hw
theorem At.sl {α : Type} {e : Enc α} {ys : List α} {a : Addr} (ha : At (eSl e) H a ys) : ∃ A c, RS e H A c ys ∧ ∀ w, Sub H w → w.cell? a = some (.slice A ys.length c) := by
 obtain ⟨v, ⟨A, c, hv, hrs⟩, hc⟩ := ha.load1 rfl
 have : v = .slice A ys.length c := by simpa using hv
 subst this; exact ⟨A, c, hrs, hc⟩
theorem At.agg {α : Type} {e : Enc α} {y : α} {a : Addr} (ha : At e H a y) : ∃ cs, e.rep H cs y ∧ ∀ w (t : TypeId) (P : Program), Sub H w → tyAgg P t = some e.size → (loadVar t a).run P w = .ok (.agg cs.toArray) w := by
 obtain ⟨b, o, rfl, cs, hr, hc⟩ := ha
 exact ⟨cs, hr, fun w t P hw ht => run_loadVar_agg ht (e.len hr) (fun j v hj => by rw [addr_add]; exact hw.cell (hc j v hj))⟩
theorem x_ldv {t : TypeId} {x : Operand} {a : Addr} {v : Value} (hx : rv r x = .pointer (some a)) (hc : (loadVar t a).run P w = .ok v w) :
  (execOp (rv r) ⟨dst, .load t x, ty, pos, after, gd⟩).run P w = .ok (.value v) w := by simp [execOp, Instr.loadAt, hx, Instr.sureAddr, hc]
/-- Is a number a place of a list of so many? -/
def inb (i : Int) (n : Nat) : Bool := decide (0 ≤ i) && decide (i < n)
theorem inb_lt {i : Int} {n : Nat} (h : inb i n = true) : 0 ≤ i ∧ i.toNat < n := by simp [inb] at h; omega
/-- An element, by its place. -/
def at0 {α : Type} [Inhabited α] (xs : List α) (i : Int) : α := xs.getD i.toNat default
theorem at0_some {α : Type} [Inhabited α] {xs : List α} {i : Int} (h : inb i xs.length = true) : xs[i.toNat]? = some (at0 xs i) := by
 have := inb_lt h
 simp [at0, List.getD_eq_getElem?_getD, List.getElem?_eq_getElem this.2]
theorem RS.at_ {α : Type} [Inhabited α] {e : Enc α} {A : Option Addr} {c : Nat} {xs : List α} (h : RS e H A c xs) {i : Int} (hi : inb i xs.length = true) :
  ∃ a, At e H (a.add (i.toNat * e.size)) (at0 xs i) ∧ A = some a := by
 have hb := inb_lt hi
 obtain ⟨b, o, rfl, hat⟩ := h.2.2 (fun h => by subst h; simp at hb)
 exact ⟨_, by rw [addr_add]; exact hat _ _ (at0_some hi), rfl⟩
/-- The address of an element of a slice. -/
theorem x_ia {xt : TypeId} {x y : Operand} {a : Addr} {m c size : Nat} {i : Int} {ik : IntKind} (hx : rv r x = .slice (some a) m c) (hy : rv r y = .int ik i) (ht : slEl P xt = some size) (hi : inb i m = true) :
  (execOp (rv r) ⟨dst, .indexAddr xt x y, ty, pos, after, gd⟩).run P w = .ok (.value (.pointer (some (a.add (i.toNat * size))))) w := by
 have hb : 0 ≤ i ∧ i < m := by simpa [inb] using hi
 unfold slEl at ht
 split at ht
 ·next el hu =>
  cases hinf : P.info? el with
  | none => rw [hinf] at ht; cases ht
  | some inf =>
   rw [hinf] at ht; simp at ht
   simp [execOp, Instr.indexAt, hx, hy, asIntOf, run_underlying hu, hb.1, hb.2, sizeOf, typeInfo, hinf, ht]
 ·cases ht
/-- The address of an element of an array in a variable. -/
theorem x_iaArr {xt : TypeId} {x y : Operand} {b o m size : Nat} {i : Int} {ik : IntKind} (hx : rv r x = .pointer (some ⟨b, o, none⟩)) (hy : rv r y = .int ik i) (ht : arEl P xt = some (m, size)) (hi : inb i m = true) :
  (execOp (rv r) ⟨dst, .indexAddr xt x y, ty, pos, after, gd⟩).run P w = .ok (.value (.pointer (some ⟨b, o + i.toNat * size, none⟩))) w := by
 have hb : 0 ≤ i ∧ i < m := by simpa [inb] using hi
 unfold arEl at ht
 split at ht
 ·next m' el hu =>
  cases hinf : P.info? el with
  | none => rw [hinf] at ht; cases ht
  | some inf =>
   rw [hinf] at ht; simp at ht
   obtain ⟨rfl, rfl⟩ := ht
   simp [execOp, Instr.indexAt, hx, hy, asIntOf, run_underlying hu, hb.1, hb.2, sizeOf, typeInfo, hinf, Instr.sureAddr, addr_add]
 ·cases ht
/-! ### len -/
theorem x_len {xt : TypeId} {x : Operand} {A : Option Addr} {m c : Nat} {el : TypeId} (hx : rv r x = .slice A m c) (hu : P.underlying xt = some (.slice el)) :
  (execOp (rv r) ⟨dst, .call ⟨.builtin .len, #[x], #[xt]⟩, ty, pos, after, gd⟩).run P w = .ok (.value (.int .i64 (m : Int))) w := by
 simp [execOp, resolve, invoke, builtin, Builtin.len_, hx, run_underlying hu, goInt]
theorem vs_size (s : Str) : (⟨s.toArray⟩ : ByteArray).size = s.length := by rw [← ByteArray.size_data]; simp
theorem x_lens {xt : TypeId} {x : Operand} {s : Str} (hx : rv r x = vs s) (hu : P.underlying xt = some .string) :
  (execOp (rv r) ⟨dst, .call ⟨.builtin .len, #[x], #[xt]⟩, ty, pos, after, gd⟩).run P w = .ok (.value (.int .i64 (s.length : Int))) w := by
 simp [execOp, resolve, invoke, builtin, Builtin.len_, hx, vs, run_underlying hu, goInt, vs_size]
def iMin (a b : Int) : Int := if b < a then b else a
def iMax (a b : Int) : Int := if a < b then b else a
end
end Go.Sw

/- Rules for rows of the call's own: made, appended to, written, handed on. -/
import Derived.Test.YtahaedoeckgidaaGreatSwMem
import Derived.Laws.Append
set_option linter.unusedVariables false
set_option linter.unusedSimpArgs false
namespace Go.Sw
def cl (v : Value) : List Value := v.cells.toList
/-- An element type: the element's number, its cells, its bytes, its zero's cells. -/
def slInfo (P : Program) (t : TypeId) : Option (TypeId × Nat × Nat × List Value) :=
  match P.underlying t with
  | some (.slice e) => match P.info? e with
    | some i => match i.zero with
      | some z => if (cl z).length = i.size ∧ 0 < i.size then some (e, i.size, i.bytes, cl z) else none
      | none => none
    | none => none
  | _ => none
theorem slInfo_spec {P : Program} {t e : TypeId} {size bytes : Nat} {zs : List Value} (h : slInfo P t = some (e, size, bytes, zs)) :
    P.underlying t = some (.slice e) ∧ ∃ i z, P.info? e = some i ∧ i.zero = some z ∧ i.size = size ∧ i.bytes = bytes ∧ cl z = zs ∧ zs.length = size ∧ 0 < size := by
  unfold slInfo at h
  split at h
  · next e' hu =>
    split at h
    · next i hi =>
      split at h
      · next z hz =>
        split at h
        · next hl =>
          simp only [Option.some.injEq, Prod.mk.injEq] at h
          obtain ⟨rfl, rfl, rfl, rfl⟩ := h
          exact ⟨hu, i, z, hi, hz, rfl, rfl, rfl, hl.1, hl.2⟩
        · cases h
      · cases h
    · cases h
  · cases h
section fill
theorem getElem?_splice (us : List Value) : ∀ (cs : List Value) (i j : Nat), i + us.length ≤ cs.length → (splice cs i us)[j]? = if i ≤ j ∧ j < i + us.length then us[j - i]? else cs[j]? := by
  induction us with
  | nil => intro cs i j h; simp [splice]; omega
  | cons u us ih =>
    intro cs i j h
    simp only [splice]
    rw [ih _ _ _ (by simp at h ⊢; omega)]
    simp only [List.length_cons] at h ⊢
    by_cases h1 : j = i
    · subst h1
      rw [if_neg (by omega), if_pos (by omega)]
      simp [show j < cs.length by omega]
    · by_cases h2 : i + 1 ≤ j ∧ j < i + 1 + us.length
      · rw [if_pos h2, if_pos (by omega), show j - i = (j - (i + 1)) + 1 from by omega, List.getElem?_cons_succ]
      · rw [if_neg h2, if_neg (by omega)]
        rw [List.getElem?_set]
        simp [Ne.symm h1]
/-- Numbered from a number on. -/
def numb (i : Nat) : List Value → List (Nat × Value)
  | [] => []
  | u :: us => (i, u) :: numb (i + 1) us
theorem foldl_put (off : Nat) : ∀ (vs : List Value) (j : Nat) (cells : List Value),
    (vs.zipIdx j).foldl (fun cs (x : Value × Nat) => cs.setIfInBounds (off + x.2) x.1) cells.toArray = (splice cells (off + j) vs).toArray
  | [], j, cells => by simp [splice]
  | v :: vs, j, cells => by
    simp only [List.zipIdx_cons, List.foldl_cons, List.setIfInBounds_toArray]
    rw [foldl_put off vs (j + 1) (cells.set (off + j) v)]
    simp [splice, Nat.add_assoc]
theorem fill_numb (size : Nat) : ∀ (us : List Value) (i : Nat) (cells : List Value), (∀ u ∈ us, (cl u).length = size) → (i + us.length) * size ≤ cells.length →
    Instr.fill (fun i => some (i * size, size)) cells.toArray (numb i us) = some (splice cells (i * size) (us.flatMap cl)).toArray
  | [], i, cells, _, _ => by simp [numb, Instr.fill, splice]
  | u :: us, i, cells, h1, hl => by
    have hu : u.cells.size = size := by have := h1 u (by simp); simpa [cl] using this
    have hle : i * size + size ≤ cells.length := by
      have : (i + 1) * size ≤ (i + (u :: us).length) * size := Nat.mul_le_mul_right _ (by simp)
      rw [Nat.succ_mul] at this; omega
    simp only [numb, Instr.fill, hu, List.size_toArray]
    rw [if_neg (by simp; omega)]
    have hz : (u.cells.zipIdx.foldl (fun cs (x : Value × Nat) => cs.setIfInBounds (i * size + x.2) x.1) cells.toArray) = (splice cells (i * size) (cl u)).toArray := by
      have := foldl_put (i * size) (cl u) 0 cells
      rw [Nat.add_zero] at this
      rw [← this, ← Array.foldl_toList]
      simp [cl]
    rw [hz, fill_numb size us (i + 1) _ (fun v hv => h1 v (by simp [hv])) (by rw [splice_length]; simpa [Nat.add_assoc, Nat.add_comm 1] using hl)]
    have : splice (splice cells (i * size) (cl u)) ((i + 1) * size) (us.flatMap cl) = splice cells (i * size) ((u :: us).flatMap cl) := by
      have key : ∀ (xs ys cs : List Value) (k : Nat), splice (splice cs k xs) (k + xs.length) ys = splice cs k (xs ++ ys) := by
        intro xs
        induction xs with
        | nil => intro ys cs k; simp [splice]
        | cons x xs ih => intro ys cs k; simp only [splice, List.cons_append, List.length_cons]; rw [← ih ys (cs.set k x) (k + 1), show k + 1 + xs.length = k + (xs.length + 1) from by omega]
      have hcu : (cl u).length = size := by simpa [cl] using hu
      rw [Nat.succ_mul, ← hcu, key]; simp
    rw [this]
theorem splice_all (cs us : List Value) (h : us.length = cs.length) : splice cs 0 us = us := by
  apply List.ext_getElem?
  intro j
  rw [getElem?_splice us cs 0 j (by omega)]
  by_cases hj : j < us.length
  · rw [if_pos (by omega)]; simp
  · rw [if_neg (by omega), List.getElem?_eq_none (by omega), List.getElem?_eq_none (by omega)]
theorem flatMap_cl_length {size : Nat} : ∀ {us : List Value}, (∀ u ∈ us, (cl u).length = size) → (us.flatMap cl).length = us.length * size
  | [], _ => by simp
  | u :: us, h => by
    simp only [List.flatMap_cons, List.length_append, List.length_cons, h u (by simp), flatMap_cl_length (us := us) (fun v hv => h v (by simp [hv])), Nat.succ_mul]
    omega
end fill
section
variable {P : Program} {n : Nat} {N : Cont} {r : Regs} {w : World} {ops : Array Oper} {rest : List Oper} {d : Nat} {ty : TypeId} {pos : String} {after : Array Edge}
variable {w0 : World} {H0 : IHeap} {M0 : List Nat} {H : IHeap} {O : OHeap}
theorem St.newRow (h : St w0 H0 M0 H O w) (k : Nat) (cells : List Value) (e : TypeId) {size m : Nat} (hl : cells.length = m * size) (h1 : ∀ v ∈ cells, v.oneCell' = true) (hm : m ≤ maxLen) :
    St w0 H0 M0 H (oup O k (some (.row (some ⟨w.heap.size, 0, none⟩) m e size m cells))) (w.alloc (.cells cells.toArray e)) :=
  h.put k _ (fun _ => False) (chg_alloc _ _ _) (fun _ h => h.elim) ⟨hl, Nat.le_refl _, hm, h1, .inr ⟨_, 0, cells, rfl, World.heap_push _ _, by omega, fun i v hv => by simpa using hv⟩⟩
    (fun g hg => .inl (by simp only [Own.ids] at hg; split at hg <;> simp at hg; omega))
theorem St.nilRow (h : St w0 H0 M0 H O w) (k : Nat) (A : Option Addr) (e : TypeId) (size : Nat) : St w0 H0 M0 H (oup O k (some (.row A 0 e size 0 []))) w :=
  h.put k _ (fun _ => False) ⟨rfl, rfl, rfl, Nat.le_refl _, fun _ _ _ => rfl⟩ (fun _ h => h.elim) ⟨by simp, Nat.le_refl _, by simp, by simp, .inl rfl⟩ (fun g hg => by simp [Own.ids] at hg)
/-- A slice that is written out. -/
theorem o_lit {t e : TypeId} {len size bytes : Nat} {zs : List Value} {parts : Array (Nat × Operand)} (k : Nat) (us : List Value) (cells : List Value) (hO : St w0 H0 M0 H O w) (hi : slInfo P t = some (e, size, bytes, zs))
    (hp : parts.toList.map (fun p => (p.1, rv r p.2)) = numb 0 us) (hl : us.length = len) (hlen : Nat.ble (len * size) 16777216 = true) (hu : ∀ u ∈ us, (cl u).length = size ∧ ∀ v ∈ cl u, v.oneCell' = true) (hcs : us.flatMap cl = cells)
    (hk : ∀ g w', St w0 H0 M0 H (oup O k (some (.row (some ⟨g, 0, none⟩) len e size len cells))) w' → WL P n ops rest N (upd r d (.slice (some ⟨g, 0, none⟩) len len)) w') (hd : Nat.blt d n = true := by rfl) :
    WL P n ops (⟨some d, .buildSlice t len parts, ty, pos, after, none⟩ :: rest) N r w := by
  obtain ⟨hut, i, z, hinf, hz, hsz, hby, hcz, hzl, hpos⟩ := slInfo_spec hi
  have hlen' : len * size ≤ 16777216 := Nat.le_of_ble_eq_true hlen
  have hcl : cells.length = len * size := by rw [← hcs, flatMap_cl_length (fun u h => (hu u h).1), hl]
  have hone : ∀ v ∈ cells, v.oneCell' = true := by
    rw [← hcs]; intro v hv
    obtain ⟨u, h1, h2⟩ := List.mem_flatMap.1 hv
    exact (hu u h1).2 v h2
  have hm : len ≤ maxLen := by
    have : len ≤ len * size := Nat.le_mul_of_pos_right _ hpos
    simp only [maxLen]; omega
  refine WL.op (fun v w' => v = .slice (some ⟨w.heap.size, 0, none⟩) len len ∧ w' = w.alloc (.cells cells.toArray e)) (Does.val (v := .slice (some ⟨w.heap.size, 0, none⟩) len len) ?_ ⟨rfl, rfl⟩)
    (fun v w' ⟨h1, h2⟩ => by subst h1; subst h2; exact hk _ _ (hO.newRow k cells e hcl hone hm)) hd
  have hfill : ∀ Z : Array Value, Instr.fill (fun i => some (i * size, size)) ((Array.range (len * size)).map (fun j => Z[j % Z.size]!)) (numb 0 us) = some cells.toArray := by
    intro Z
    have := fill_numb size us 0 ((Array.range (len * size)).map (fun j => Z[j % Z.size]!)).toList (fun u h => (hu u h).1) (by simp [hl])
    rw [Array.toArray_toList] at this
    rw [this, Nat.zero_mul, splice_all, hcs]
    rw [hcs]; simp [hcl]
  have hparts : (parts.map fun p => (p.1, rv r p.2)).toList = numb 0 us := by simpa using hp
  have hnot : ¬ len * size > 2 ^ 24 := by omega
  have hsz' : (sizeOf e).run P w = .ok size w := run_sizeOf (by simp [tySize, hinf, hsz])
  simp only [execOp, Instr.buildSlice, Sem.run_bind, run_underlying hut, Result.andThen_ok, hsz', hnot, if_false]
  by_cases h0 : len * size = 0
  · rw [if_pos h0, hparts]
    have hf := hfill #[]
    simp only [Sem.run_bind, Sem.run_pure, Result.andThen_ok, hf]
    simp [newRow, newObj, Sem.run]
  · have hf := hfill z.cells
    rw [if_neg h0, hparts]
    simp only [zeroValue, typeInfo, Sem.run_bind, hinf, hz, Result.andThen_ok]
    simp [hinf, hz]
    simp only [hf]
    simp [newRow, newObj, Sem.run]
/-! ### append -/
theorem run_storeCells_w {g off : Nat} {e : TypeId} : ∀ (us : List Value) (i : Nat) (w : World) (cur : List Value), w.heap[g]? = some (.cells cur.toArray e (0, 0)) → (∀ u ∈ us, u.oneCell' = true) → off + i + us.length ≤ cur.length →
    ∃ w', (storeCells ⟨g, off, none⟩ us i).run P w = .ok () w' ∧ w'.heap[g]? = some (.cells (splice cur (off + i) us).toArray e (0, 0)) ∧ Chg w w' (fun b => b = g) ∧ w'.heap.size = w.heap.size
  | [], i, w, cur, hh, _, _ => ⟨w, by simp [storeCells], by simpa [splice] using hh, ⟨rfl, rfl, rfl, Nat.le_refl _, fun _ _ _ => rfl⟩, rfl⟩
  | u :: us, i, w, cur, hh, h1, hl => by
    have hlt : off + i < cur.length := by simp at hl; omega
    have hst := run_store (P := P) (w := w) (a := ⟨g, off + i, none⟩) (u := cur[off + i]) (v := u) (by simp [World.cell?, hh, hlt]) (by simp [World.frozen?, hh]) (h1 u (by simp))
    obtain ⟨w', hr, hh', hc, hs⟩ := run_storeCells_w (off := off) us (i + 1) (w.setCell ⟨g, off + i, none⟩ u) (cur.set (off + i) u) (heap_setCell_at u hh) (fun v hv => h1 v (by simp [hv])) (by simp at hl ⊢; omega)
    have hc0 := chg_setCell w g (off + i) u
    have hsz0 : (w.setCell ⟨g, off + i, none⟩ u).heap.size = w.heap.size := by simp [World.setCell]
    refine ⟨w', ?_, by simpa [splice, Nat.add_assoc] using hh', ⟨hc.os.trans hc0.os, hc.tape.trans hc0.tape, hc.output.trans hc0.output, by rw [hs, hsz0]; exact Nat.le_refl _, fun b hb hn => (hc.bl b (by rw [hsz0]; exact hb) hn).trans (hc0.bl b hb hn)⟩, by rw [hs, hsz0]⟩
    unfold storeCells
    simp only [Sem.run_bind, addr_add, hst, Result.andThen_ok]
    exact hr
/-- Cells that stand somewhere, to be copied. -/
def Src (w : World) (B : Option Addr) (m size : Nat) (xs : List Value) : Prop :=
  xs.length = m * size ∧ (∀ v ∈ xs, v.oneCell' = true) ∧ (m = 0 ∨ ∃ b o, B = some ⟨b, o, none⟩ ∧ ∀ i v, xs[i]? = some v → w.cell? ⟨b, o + i, none⟩ = some v)
theorem Src.run {B : Option Addr} {m size c : Nat} {xs : List Value} (h : Src w B m size xs) : (Builtin.firstCells size m (.slice B m c)).run P w = .ok xs.toArray w := by
  obtain ⟨hl, _, h⟩ := h
  rcases h with h | ⟨b, o, rfl, h⟩
  · subst h
    obtain rfl : xs = [] := List.eq_nil_of_length_eq_zero (by simpa using hl)
    cases B with
    | none => simp [Builtin.firstCells]
    | some a => simp [Builtin.firstCells, loadCells, loadCellsFrom]
  · simp only [Builtin.firstCells]
    exact run_loadCells hl (fun j v hj => by rw [addr_add]; exact h j v hj)
theorem row_cell {k : Nat} {A : Option Addr} {c size m g o : Nat} {e : TypeId} {cells : List Value} (hO : St w0 H0 M0 H O w) (hk : O k = some (.row A c e size m cells)) (hA : A = some ⟨g, o, none⟩) (hc : c ≠ 0) {i : Nat} {v : Value} (hv : cells[i]? = some v) :
    w.cell? ⟨g, o + i, none⟩ = some v := by
  obtain ⟨h1, h2, h3, h4, h5⟩ := hO.ok k _ hk
  obtain ⟨g', o', cur, ha, hh, hlen, hat⟩ := h5.resolve_left hc
  rw [hA] at ha
  simp only [Option.some.injEq, Addr.mk.injEq, and_true] at ha
  obtain ⟨rfl, rfl⟩ := ha
  simp [World.cell?, hh, hat i v hv]
theorem Src.row {k : Nat} {A : Option Addr} {c size m : Nat} {e : TypeId} {cells : List Value} (hO : St w0 H0 M0 H O w) (hk : O k = some (.row A c e size m cells)) : Src w A m size cells := by
  obtain ⟨h1, h2, h3, h4, h5⟩ := hO.ok k _ hk
  refine ⟨h1, h4, ?_⟩
  rcases h5 with h5 | ⟨g, o, cur, ha, hh, hlen, hat⟩
  · exact .inl (by omega)
  · exact .inr ⟨g, o, ha, fun i v hv => by simp [World.cell?, hh, hat i v hv]⟩
def lim (n : Nat) : Bool := decide (n ≤ 4294967296)
theorem run_append {t tx e : TypeId} {size bytes : Nat} {zs : List Value} (hi : slInfo P t = some (e, size, bytes, zs)) (hz1 : ∀ v ∈ zs, v.oneCell' = true) (hby : bytes ≤ 16384) (hu : P.underlying tx = some (.slice e))
    {k : Nat} {A B : Option Addr} {c m m' c' : Nat} {cells xs : List Value} (hO : St w0 H0 M0 H O w) (hk : O k = some (.row A c e size m cells)) (hx : Src w B m' size xs) (hlim : m + m' ≤ 4294967296) :
    ∃ A' c'' w', (Builtin.append_ #[t, tx] ty #[.slice A m c, .slice B m' c']).run P w = .ok (.slice A' (m + m') c'') w' ∧
      St w0 H0 M0 H (oup O k (some (.row A' c'' e size (m + m') (cells ++ xs)))) w' := by
  obtain ⟨hut, i, z, hinf, hz, hsz, hbs, hcz, hzl, hpos⟩ := slInfo_spec hi
  obtain ⟨h1, h2, h3, h4, h5⟩ := hO.ok k _ hk
  have hsz' : ∀ w, (sizeOf e).run P w = .ok size w := fun w => run_sizeOf (by simp [tySize, hinf, hsz])
  have hcl : (cells ++ xs).length = (m + m') * size := by rw [List.length_append, h1, hx.1, Nat.add_mul]
  have hone : ∀ v ∈ cells ++ xs, v.oneCell' = true := fun v hv => (List.mem_append.1 hv).elim (h4 v) (hx.2.1 v)
  by_cases hfit : m + m' ≤ c
  · -- in place
    rcases h5 with h5 | ⟨g, o, cur, hA, hh, hlen, hat⟩
    · -- nothing to write
      have hm : m = 0 := by omega
      have hm' : m' = 0 := by omega
      subst hm; subst hm'; subst h5
      obtain rfl : xs = [] := List.eq_nil_of_length_eq_zero (by simpa using hx.1)
      obtain rfl : cells = [] := List.eq_nil_of_length_eq_zero (by simpa using h1)
      refine ⟨A, 0, w, ?_, ?_⟩
      · have hr := hx.run (P := P) (c := c')
        cases A with
        | none => simp [Builtin.append_, run_underlying hut, run_underlying hu, hsz', Builtin.lenOf, hr]
        | some a => simp [Builtin.append_, run_underlying hut, run_underlying hu, hsz', Builtin.lenOf, hr, storeCells]
      · exact hO.nilRow k A e size
    · have hw : o + m * size + 0 + xs.length ≤ cur.length := by
        rw [hx.1]
        have : (m + m') * size ≤ c * size := Nat.mul_le_mul_right _ hfit
        rw [Nat.add_mul] at this; omega
      obtain ⟨w', hr, hh', hch, hs⟩ := run_storeCells_w (P := P) (off := o + m * size) xs 0 w cur hh hx.2.1 hw
      refine ⟨A, c, w', ?_, ?_⟩
      · have hr1 := hx.run (P := P) (c := c')
        subst hA
        simp [Builtin.append_, run_underlying hut, run_underlying hu, hsz', Builtin.lenOf, hr1, hfit, addr_add, hr]
      · by_cases hc : c = 0
        · exact hO.put k _ (fun b => b = g ∧ False) ⟨hch.os, hch.tape, hch.output, hch.sz, fun b hb _ => by
            have hxs : xs = [] := List.eq_nil_of_length_eq_zero (by rw [hx.1]; have : m' = 0 := by omega
                                                                    simp [this])
            subst hxs
            by_cases hbg : b = g
            · subst hbg; rw [hh']; simp [splice, hh]
            · exact hch.bl b hb hbg⟩ (fun b hb => hb.2.elim) ⟨hcl, hfit, h3, hone, .inl hc⟩ (fun g' hg' => by simp [Own.ids, hc] at hg')
        · refine hO.put k _ (fun b => b = g) hch (fun b hb => ⟨_, hk, by subst hb; simp [Own.ids, hc, hA]⟩) ⟨hcl, hfit, h3, hone, .inr ⟨g, o, _, hA, hh', by rw [splice_length]; exact hlen, fun i v hv => ?_⟩⟩
            (fun g' hg' => .inr ⟨_, hk, by simpa [Own.ids, hc] using hg'⟩)
          rw [Nat.add_zero, getElem?_splice _ _ _ _ (by omega)]
          rw [List.getElem?_append] at hv
          split at hv
          · next hlt => rw [if_neg (by omega)]; exact hat i v hv
          · next hge =>
            have hi2 := (List.getElem?_eq_some_iff.1 hv).1
            rw [if_pos (by omega), show o + i - (o + m * size) = i - cells.length from by omega]; exact hv
  · -- a new block
    have hgt : c < m + m' := by omega
    have hb47 : (m + m') * bytes ≤ 140737488355328 := by
      have : (m + m') * bytes ≤ 4294967296 * 16384 := Nat.mul_le_mul hlim hby
      omega
    have hns : Builtin.nextslicecap (m + m') c * bytes ≤ 281474976710656 := growslice_fits hgt hb47
    have hr0 := (Src.row hO hk).run (P := P) (c := c)
    have hr1 := hx.run (P := P) (c := c')
    have hzs : z.cells.size = size := by rw [← hzl, ← hcz]; simp [cl]
    let q := Question.appendCap (m + m') c e
    let nc := q.cut (w.tape w.drawn q)
    have hnc : m + m' ≤ nc ∧ nc ≤ maxLen := by
      simp only [nc, q, Question.cut, maxLen]
      have : w.tape w.drawn (Question.appendCap (m + m') c e) % (2 ^ 63 - (m + m')) < 2 ^ 63 - (m + m') := Nat.mod_lt _ (by omega)
      omega
    let w1 : World := { w with drawn := w.drawn + 1 }
    let rowC : List Value := cells ++ xs ++ (Builtin.zeroCells z.cells (nc - (m + m'))).toList
    have hO1 : St w0 H0 M0 H O w1 := hO.same rfl rfl rfl rfl
    have hzc : (Builtin.zeroCells z.cells (nc - (m + m'))).toList.length = (nc - (m + m')) * size := by simp [Builtin.zeroCells, hzs]
    have hrowlen : rowC.length = nc * size := by
      simp only [rowC, List.length_append, h1, hx.1, hzc]
      rw [← Nat.add_mul, ← Nat.add_mul]; congr 1; omega
    refine ⟨some ⟨w.heap.size, 0, none⟩, nc, w1.alloc (.cells rowC.toArray e), ?_, ?_⟩
    · have hroom : ∀ W, (askRoom (nc * bytes)).run P W = .ok () W := fun W => by unfold askRoom; split <;> simp [mark, Sem.run]
      have hnn : ¬ (2 : Nat) ^ 48 < Builtin.nextslicecap (m + m') c * bytes := by omega
      have hbne : ¬ ((m + m' : Nat) : Int) > IntKind.i64.max := by
        have : IntKind.i64.max = 9223372036854775807 := by decide
        omega
      have hr0' : (Builtin.firstCells size m (.slice A m c)).run P w1 = .ok cells.toArray w1 := (Src.row hO1 hk).run
      have hx1 : Src w1 B m' size xs := hx
      have hr1' : (Builtin.firstCells size m' (.slice B m' c')).run P w1 = .ok xs.toArray w1 := hx1.run
      have hch : (choose (.appendCap (m + m') c e)).run P w = .ok nc w1 := by simp [choose, Sem.run, Question.forced, nc, q, w1]
      have hnat : ((m : Int) + (m' : Int) > IntKind.i64.max) = False := by simpa using hbne
      simp only [Builtin.append_]
      simp [run_underlying hut, run_underlying hu, hsz', Builtin.lenOf, hfit, typeInfo, hinf, hbs, hnn, hch, hroom, hr0', hr1', zeroValue, hz, newRow, newObj, Sem.run]
      have hbn : ¬ ((9223372036854775807 : Int) < (m : Int) + (m' : Int) ∧ bytes = 0) := by omega
      have hd : w.drew = w1 := rfl
      rw [if_neg hbn, if_neg (by simp [Question.forced]), hd, hr0']
      simp only [Result.andThen_ok]
      rw [hr1']
      simp only [Result.andThen_ok]
      have hcat : ∀ Z : Array Value, cells.toArray ++ (xs.toArray ++ Z) = (cells ++ (xs ++ Z.toList)).toArray := fun Z => by apply Array.ext'; simp
      simp [rowC, nc, q, w1, hcat]
    · exact hO1.put k _ (fun _ => False) (chg_alloc _ _ _) (fun _ h => h.elim) ⟨hcl, hnc.1, hnc.2, hone, .inr ⟨w.heap.size, 0, rowC, rfl, World.heap_push w1 _, by omega, fun i v hv => by
          rw [Nat.zero_add]; simp only [rowC]
          rw [List.getElem?_append_left (List.getElem?_eq_some_iff.1 hv).1]; exact hv⟩⟩
        (fun g hg => .inl (by
          show w.heap.size ≤ g
          simp only [Own.ids] at hg; split at hg <;> simp at hg; omega))
end
end Go.Sw

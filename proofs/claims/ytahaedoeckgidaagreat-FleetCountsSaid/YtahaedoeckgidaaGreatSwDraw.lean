/- Regions that draw their order: whatever order comes up. -/
import Derived.Test.YtahaedoeckgidaaGreatSwCall
set_option linter.unusedVariables false
set_option linter.unusedSimpArgs false
namespace Go.Sw
/-- Whatever comes up from here on; behind each operation but those of T the world meets S. -/
def anyT (P : Program) (ops : Array Oper) (Q : Exit → Act → World → Prop) (S : World → Prop) (T : Nat → Bool) : Nat → Array Bool → Act → World → Prop
 | 0, listed, a, w => Region.ready .any ops listed = [] ∧ Q .normal a w
 | k + 1, listed, a, w => (Region.ready .any ops listed = [] → Q .normal a w) ∧
  ∀ i ∈ Region.ready .any ops listed, wpOp P ops Q i (fun a' w' => (T i = false → S w') ∧ anyT P ops Q S T k (listed.setIfInBounds i true) a' w') a w
section
variable {P : Program} {ops : Array Oper} {Q : Exit → Act → World → Prop} {S : World → Prop} {T : Nat → Bool}
theorem anyT.sound : ∀ (k : Nat) (listed : Array Bool) (a : Act) (w : World), anyT P ops Q S T k listed a w → wpAny P .any ops Q k listed a w
 | 0, _, _, _, h => h
 | k + 1, _, _, _, h => ⟨h.1, fun i hi => wpOp_mono (fun a' w' hh => anyT.sound k _ a' w' hh.2) (h.2 i hi)⟩
/-- Is one waited for, by another one, or by those that it waits for? -/
def after_ (ops : Array Oper) : Nat → Nat → Nat → Bool
 | 0, _, _ => false
 | f + 1, j, i => ((ops[j]?).map fun o => o.after.any fun e => Region.binds .any e && (e.on == i || after_ ops f e.on i)).getD false
/-- What is listed waited for nothing that is not. -/
def closedB (ops : Array Oper) (listed : Array Bool) : Bool :=
 (List.range ops.size).all fun j => !listed.getD j true || ((ops[j]?).map fun o => o.after.all fun e => !Region.binds .any e || listed.getD e.on true).getD true
theorem after_not {i : Nat} {listed : Array Bool} (hi : listed.getD i true = false) (hc : ∀ j oj, ops[j]? = some oj → listed.getD j true = true → ∀ e ∈ oj.after, Region.binds .any e = true → listed.getD e.on true = true) :
  ∀ (f j : Nat) (oj : Oper), ops[j]? = some oj → (∀ e ∈ oj.after, Region.binds .any e = true → listed.getD e.on true = true) → after_ ops f j i = false
 | 0, _, _, _, _ => rfl
 | f + 1, j, oj, hj, h => by
  simp only [after_, hj, Option.map_some, Option.getD_some]
  rw [Bool.eq_false_iff]
  intro hh
  obtain ⟨q, hq, hb⟩ := Array.any_eq_true.1 hh
  simp only [Bool.and_eq_true, Bool.or_eq_true, beq_iff_eq] at hb
  have hl := h _ (Array.getElem_mem hq) hb.1
  rcases hb.2 with h1 | h1
  ·rw [h1, hi] at hl; cases hl
  ·cases ho : ops[(oj.after[q]).on]? with
   | none =>
    cases f with
    | zero => cases h1
    | succ f => simp [after_, ho] at h1
   | some o => rw [after_not hi hc f _ o ho (hc _ o ho hl)] at h1; cases h1
/-- Those of T wait for an operation. -/
def waitT (ops : Array Oper) (T : Nat → Bool) (listed : Array Bool) (i : Nat) : Bool :=
 closedB ops listed && (List.range ops.size).all fun j => !T j || listed.getD j true || j == i || after_ ops ops.size j i
theorem anyT.first {i m : Nat} {oi : Oper} {v : Value} (hi : ops[i]? = some oi) (hs : Region.noSelect ops = true) (hQ : ∀ c a w, Q (.panic c) (a.put oi.dst v) w → Q (.panic c) a w) (hTi : T i = false) :
  ∀ (k : Nat) (listed : Array Bool) (a : Act) (w : World), (∀ j oj, ops[j]? = some oj → listed.getD j true = true → ∀ e ∈ oj.after, Region.binds .any e = true → listed.getD e.on true = true) →
   (∀ j oj, ops[j]? = some oj → j ≠ i → listed.getD j true = false → (∀ e ∈ oj.after, Region.binds .any e = true → e.on ≠ i) → after_ ops m j i = false → oi.apart ops oj = true ∧ T j = false) →
   i ∈ Region.ready .any ops listed → YieldsIf P ops S oi v a → S w → anyT P ops Q S T k (listed.setIfInBounds i true) (a.put oi.dst v) w → anyT P ops Q S T (k + 1) listed a w := by
 have hsel := Region.noSelect_spec hs
 intro k
 induction k with
 | zero =>
  intro listed a w _ _ hr hy hS H
  refine ⟨fun h => (by rw [h] at hr; cases hr), fun j hj => ?_⟩
  by_cases hji : j = i
  ·subst hji; exact hy.wpOp hi hS ⟨fun _ => hS, H⟩
  ·have := ready_mono hj hji
   rw [H.1] at this; cases this
 | succ k ih =>
  intro listed a w hcl hf hr hy hS H
  refine ⟨fun h => (by rw [h] at hr; cases hr), fun j hj => ?_⟩
  by_cases hji : j = i
  ·subst hji; exact hy.wpOp hi hS ⟨fun _ => hS, H⟩
  ·obtain ⟨hjun, oj, hoj, hall⟩ := mem_ready.1 hj
   have hiun := (mem_ready.1 hr).1
   have hall' : ∀ e ∈ oj.after, Region.binds .any e = true → listed.getD e.on true = true := fun e he hb => by
    have h1 := hall e he hb
    rcases Nat.lt_or_ge e.on listed.size with hlt | hge
    ·simp [hlt] at h1 ⊢; exact h1
    ·simp [Array.getElem?_eq_none hge]
   have hno : ∀ e ∈ oj.after, Region.binds .any e = true → e.on ≠ i := fun e he hb heq => by
    have h1 := hall' e he hb
    rw [heq, hiun] at h1; cases h1
   obtain ⟨hap, hTj⟩ := hf j oj hoj hji hjun hno (after_not hiun hcl m j oj hoj hall')
   have h2 := wpOp_putIf hoj hap (fun cs b => hsel i oi cs b hi) (fun cs b => hsel j oj cs b hoj) hQ hy (H.2 j (ready_mono hj hji))
   refine wpOp_mono (fun a' w' hh => ⟨hh.2.1, ih _ a' w' ?_ ?_ (ready_mono hr (Ne.symm hji)) hh.1 (hh.2.1 hTj) ?_⟩) h2
   ·intro l ol hl hlt e he hb
    by_cases hjl : j = l
    ·subst hjl
     rw [hoj] at hl; injection hl with hl; subst hl
     have := hall' e he hb
     by_cases hje : j = e.on
     ·rw [← hje] at this ⊢; rw [hjun] at this; cases this
     ·rw [getD_set_ne true hje]; exact this
    ·rw [getD_set_ne true hjl] at hlt
     have := hcl l ol hl hlt e he hb
     by_cases hje : j = e.on
     ·rw [← hje] at this; rw [hjun] at this; cases this
     ·rw [getD_set_ne true hje]; exact this
   ·intro l ol hl hli hun hnol hre
    refine hf l ol hl hli ?_ hnol hre
    by_cases hjl : j = l
    ·subst hjl; exact hjun
    ·rwa [getD_set_ne true hjl] at hun
   ·rw [Array.setIfInBounds_comm _ _ hji]; exact hh.2.2
theorem closedB_spec {listed : Array Bool} (h : closedB ops listed = true) : ∀ j oj, ops[j]? = some oj → listed.getD j true = true → ∀ e ∈ oj.after, Region.binds .any e = true → listed.getD e.on true = true := fun j oj hj hl e he hb => by
 have hjs : j < ops.size := (Array.getElem?_eq_some_iff.1 hj).1
 have := (List.all_eq_true.1 h) j (by simpa using hjs)
 simp only [hl, Bool.not_true, Bool.false_or, hj, Option.map_some, Option.getD_some] at this
 have := (Array.all_eq_true_iff_forall_mem.1 this) e he
 simpa [hb] using this
end
/-- The same, of registers. -/
def WA (P : Program) (n : Nat) (ops : Array Oper) (S : World → Prop) (T : Nat → Bool) (k : Nat) (listed : Array Bool) (N : Cont) (r : Regs) (w : World) : Prop :=
 ∀ (X : List (Nat × Cont)) (R : Cont) a, Sts n r a → anyT P ops (lift n N X R) S T k listed a w
section
variable {P : Program} {n : Nat} {N R : Cont} {X : List (Nat × Cont)} {r : Regs} {w : World} {l : List Oper} {S : World → Prop} {T : Nat → Bool}
theorem W.draw {id : Nat} (S : World → Prop) (T : Nat → Bool) (hm : P.follows .mixedOrders = true) (k : Nat) (hl : l.length = k) (listed : Array Bool) (hli : Array.replicate k false = listed)
  (h : ∀ w', w'.heap = w.heap → w'.os = w.os → w'.tape = w.tape → w'.output = w.output → WA P n l.toArray S T k listed N r w') : W P n (.region id l.toArray true) N X R r w := fun a ha =>
 wp_region_any hm (by
  have := anyT.sound _ _ _ _ (h { w with drawn := w.drawn + 1 } rfl rfl rfl rfl X R a ha)
  simpa [hl, hli] using this)
theorem WA.done {ops : Array Oper} {k : Nat} {listed : Array Bool} (hr : Region.ready .any ops listed = []) (h : N r w) : WA P n ops S T k listed N r w := fun X R a ha => by
 cases k with
 | zero => exact ⟨hr, r, ha, h⟩
 | succ k => exact ⟨fun _ => ⟨r, ha, h⟩, by rw [hr]; simp⟩
/-- Can it be taken first? -/
def mayTake (ops : Array Oper) (T : Nat → Bool) (listed : Array Bool) (i : Nat) : Bool :=
 Region.free .any ops listed i && (Region.ready .any ops listed).contains i && !T i && waitT ops T listed i && Region.noSelect ops
theorem WA.take_ {ops : Array Oper} {i : Nat} {oi : Oper} {v : Value} {k : Nat} {listed : Array Bool} {d : Nat} (hi : ops[i]? = some oi) (hdst : oi.dst = some d) (hd : Nat.blt d n = true) (hb : mayTake ops T listed i = true)
  (hy : ∀ a, Sts n r a → YieldsIf P ops S oi v a) (hS : S w) (listed' : Array Bool) (hl : listed.setIfInBounds i true = listed') (h : WA P n ops S T k listed' N (upd r d v) w) : WA P n ops S T (k + 1) listed N r w := fun X R a ha => by
 simp only [mayTake, Bool.and_eq_true] at hb
 obtain ⟨⟨⟨⟨hf, hr⟩, hTi⟩, hw⟩, hs⟩ := hb
 have hTi : T i = false := by simpa using hTi
 simp only [waitT, Bool.and_eq_true] at hw
 refine anyT.first (m := ops.size) hi hs (fun c a w h => h) hTi k listed a w (closedB_spec hw.1) (fun j oj hj hji hun hno hre => ⟨Region.free_spec hi hf j oj hj hji hun hno, ?_⟩) (by simpa using hr) (hy a ha) hS ?_
 ·have hjs : j < ops.size := (Array.getElem?_eq_some_iff.1 hj).1
  have := (List.all_eq_true.1 hw.2) j (by simpa using hjs)
  simp only [hun, hre, Bool.or_eq_true, Bool.not_eq_true', Bool.false_eq_true, or_false, beq_iff_eq] at this
  rcases this with h1 | h1
  ·exact h1
  ·exact absurd h1 hji
 ·rw [hl]
  have := h X R (a.put (some d) v) (ha.put d hd v)
  rwa [hdst]
/-- An operation that leaves a value and the world as it was, taken first. -/
theorem WA.take {ops : Array Oper} {i : Nat} {v : Value} {k : Nat} {listed : Array Bool} {d : Nat} {op : Op} {t : TypeId} {pos : String} {after : Array Edge} (hi : ops[i]? = some ⟨some d, op, t, pos, after, none⟩) (hb : mayTake ops T listed i = true)
  (hy : ∀ w, S w → (execOp (rv r) ⟨some d, op, t, pos, after, none⟩).run P w = .ok (.value v) w) (hS : S w) (h : WA P n ops S T k (listed.setIfInBounds i true) N (upd r d v) w) (hd : Nat.blt d n = true := by rfl) : WA P n ops S T (k + 1) listed N r w :=
 WA.take_ hi rfl hd hb (fun a ha => .inl ⟨rfl, by rw [ha.eval_fun]; exact hy⟩) hS _ rfl h
theorem wanted_of {ops : Array Oper} {a : Act} {j t' : Nat} {b want : Bool} {o : Oper} (ha : Sts n r a) (hg : o.guard = some (j, want)) (hj : (ops[j]?).bind (·.dst) = some t') (hb : r t' = .bool b) (ht : Nat.blt t' n = true) :
  Region.wanted o (yielded ops a.tmps) = (b == want) := by
 have h1 : a.tmps[t']? = some (.bool b) := by
  have h2 := (ha.ev t').trans hb
  have h3 : t' < a.tmps.size := by rw [ha.sz]; simpa [Nat.blt_eq] using ht
  rw [Array.getElem?_eq_getElem h3]
  simpa [Array.getD, h3] using h2
 simp [Region.wanted, hg, yielded, hj, h1]
/-- The same of a guarded one. -/
theorem WA.gtake {ops : Array Oper} {i : Nat} {v : Value} {k : Nat} {listed : Array Bool} {d j t' : Nat} {b want : Bool} {op : Op} {t : TypeId} {pos : String} {after : Array Edge} (hi : ops[i]? = some ⟨some d, op, t, pos, after, some (j, want)⟩) (hj : (ops[j]?).bind (·.dst) = some t') (hb' : r t' = .bool b) (hb : mayTake ops T listed i = true)
  (hy : (b == want) = true → ∀ w, S w → (execOp (rv r) ⟨some d, op, t, pos, after, some (j, want)⟩).run P w = .ok (.value v) w) (hS : S w) (h : WA P n ops S T k (listed.setIfInBounds i true) N (upd r d (bif b == want then v else undef)) w) (ht : Nat.blt t' n = true := by rfl) (hd : Nat.blt d n = true := by rfl) : WA P n ops S T (k + 1) listed N r w :=
 WA.take_ hi rfl hd hb (fun a ha => by
  have hw := wanted_of (o := ⟨some d, op, t, pos, after, some (j, want)⟩) ha rfl hj hb' ht
  cases hbw : b == want with
  | true => exact .inl ⟨by rw [hw, hbw], by rw [ha.eval_fun]; simpa using hy hbw⟩
  | false => exact .inr ⟨by rw [hw, hbw], rfl⟩) hS _ rfl h
theorem WA.takeY {ops : Array Oper} {i : Nat} {v : Value} {k : Nat} {listed : Array Bool} {d j t' : Nat} {want : Bool} {op : Op} {t : TypeId} {pos : String} {after : Array Edge} (hi : ops[i]? = some ⟨some d, op, t, pos, after, some (j, want)⟩) (hj : (ops[j]?).bind (·.dst) = some t') (hb' : r t' = .bool want) (hb : mayTake ops T listed i = true)
  (hy : ∀ w, S w → (execOp (rv r) ⟨some d, op, t, pos, after, some (j, want)⟩).run P w = .ok (.value v) w) (hS : S w) (h : WA P n ops S T k (listed.setIfInBounds i true) N (upd r d v) w) (ht : Nat.blt t' n = true := by rfl) (hd : Nat.blt d n = true := by rfl) : WA P n ops S T (k + 1) listed N r w :=
 WA.gtake hi hj hb' hb (fun _ => hy) hS (by simpa using h) ht hd
theorem WA.takeN {ops : Array Oper} {i : Nat} {k : Nat} {listed : Array Bool} {d j t' : Nat} {b want : Bool} {op : Op} {t : TypeId} {pos : String} {after : Array Edge} (hi : ops[i]? = some ⟨some d, op, t, pos, after, some (j, want)⟩) (hj : (ops[j]?).bind (·.dst) = some t') (hb' : r t' = .bool b) (hne : (b == want) = false) (hb : mayTake ops T listed i = true)
  (hS : S w) (h : WA P n ops S T k (listed.setIfInBounds i true) N (upd r d undef) w) (ht : Nat.blt t' n = true := by rfl) (hd : Nat.blt d n = true := by rfl) : WA P n ops S T (k + 1) listed N r w :=
 WA.take_ hi rfl hd hb (fun a ha => .inr ⟨by rw [wanted_of (o := ⟨some d, op, t, pos, after, some (j, want)⟩) ha rfl hj hb' ht, hne], rfl⟩) hS _ rfl h
theorem WA.takeU {ops : Array Oper} {i : Nat} {k : Nat} {listed : Array Bool} {d j t' : Nat} {want : Bool} {op : Op} {t : TypeId} {pos : String} {after : Array Edge} (hi : ops[i]? = some ⟨some d, op, t, pos, after, some (j, want)⟩) (hj : (ops[j]?).bind (·.dst) = some t') (hb' : r t' = undef) (hb : mayTake ops T listed i = true)
  (hS : S w) (h : WA P n ops S T k (listed.setIfInBounds i true) N (upd r d undef) w) (ht : Nat.blt t' n = true := by rfl) (hd : Nat.blt d n = true := by rfl) : WA P n ops S T (k + 1) listed N r w :=
 WA.take_ hi rfl hd hb (fun a ha => .inr ⟨by
  have h1 : a.tmps[t']? = some undef := by
   have h2 := (ha.ev t').trans hb'
   have h3 : t' < a.tmps.size := by rw [ha.sz]; simpa [Nat.blt_eq] using ht
   rw [Array.getElem?_eq_getElem h3]
   simpa [Array.getD, h3] using h2
  simp [Region.wanted, yielded, hj, h1, undef], rfl⟩) hS _ rfl h
theorem wp_monoQ {P : Program} {o : Oper} {a : Act} {w : World} {K : Act → World → Prop} {Q Q' : Exit → Act → World → Prop} (h : o.wp P a w K Q) (hp : ∀ c a w, Q (.panic c) a w → Q' (.panic c) a w) (hl : LetsOut Q → LetsOut Q') : o.wp P a w K Q' := by
 unfold Oper.wp at *
 generalize (execOp a.eval o).run P w = x at *
 cases x with
 | ok m w' =>
  cases m <;> simp only [Oper.upon] at h ⊢ <;> first | exact h | skip
  case enter f args =>
   refine Calls.mono h fun e w'' he => ?_
   cases e with
   | returned v => exact he
   | panicked c => exact hp _ _ _ he
   | outgrown => exact hl he
 | halt x w' =>
  cases x <;> simp only [Oper.upon] at h ⊢
  case panic v => exact hp _ _ _ h
/-- The only one that may come up. -/
theorem WA.only {ops : Array Oper} {i : Nat} {o : Oper} {k : Nat} {listed : Array Bool} (hr : Region.ready .any ops listed = [i]) (hi : ops[i]? = some o)
  (h : WL P n ops [o] (fun r w => (T i = false → S w) ∧ WA P n ops S T k (listed.setIfInBounds i true) N r w) r w) : WA P n ops S T (k + 1) listed N r w := fun X R a ha => by
 refine ⟨fun h0 => (by rw [hr] at h0; cases h0), fun j hj => ?_⟩
 rw [hr] at hj
 obtain rfl : j = i := by simpa using hj
 have := h X R a ha
 have hnil : ∀ a' w', wpList P ops (lift n (fun r w => (T j = false → S w) ∧ WA P n ops S T k (listed.setIfInBounds j true) N r w) X R) [] a' w' → (T j = false → S w') ∧ anyT P ops (lift n N X R) S T k (listed.setIfInBounds j true) a' w' := fun a' w' hh => by
  obtain ⟨r', h1, h2, h3⟩ := hh
  exact ⟨h2, h3 X R a' h1⟩
 unfold wpList at this
 unfold wpOp
 rw [hi]
 simp only []
 split at this
 ·next hw =>
  rw [if_pos hw]
  refine .inl ?_
  rcases this with this | ⟨_, a₀, w₀, hq⟩
  ·exact wp_monoQ (Oper.wp_mono hnil this) (fun _ _ _ hh => hh) (fun ⟨_, _, hh⟩ => hh.elim)
  ·exact hq.elim
 ·next hw =>
  rw [if_neg hw]
  exact hnil _ _ this
/-- Any of several that may come up. -/
theorem WA.all {ops : Array Oper} {k : Nat} {listed : Array Bool} (rs : List Nat) (hr : Region.ready .any ops listed = rs) (hne : rs ≠ [])
  (h : ∀ i ∈ rs, ∃ o, ops[i]? = some o ∧ WL P n ops [o] (fun r w => (T i = false → S w) ∧ WA P n ops S T k (listed.setIfInBounds i true) N r w) r w) : WA P n ops S T (k + 1) listed N r w := fun X R a ha => by
 refine ⟨fun h0 => absurd (hr ▸ h0) hne, fun j hj => ?_⟩
 rw [hr] at hj
 obtain ⟨o, hi, hh⟩ := h j hj
 have := hh X R a ha
 have hnil : ∀ a' w', wpList P ops (lift n (fun r w => (T j = false → S w) ∧ WA P n ops S T k (listed.setIfInBounds j true) N r w) X R) [] a' w' → (T j = false → S w') ∧ anyT P ops (lift n N X R) S T k (listed.setIfInBounds j true) a' w' := fun a' w' hh => by
  obtain ⟨r', h1, h2, h3⟩ := hh
  exact ⟨h2, h3 X R a' h1⟩
 unfold wpList at this
 unfold wpOp
 rw [hi]
 simp only []
 split at this
 ·next hw =>
  rw [if_pos hw]
  refine .inl ?_
  rcases this with this | ⟨_, a₀, w₀, hq⟩
  ·exact wp_monoQ (Oper.wp_mono hnil this) (fun _ _ _ hh => hh) (fun ⟨_, _, hh⟩ => hh.elim)
  ·exact hq.elim
 ·next hw =>
  rw [if_neg hw]
  exact hnil _ _ this
/-- The condition on a region's worlds: data stays; these own things are as they are. -/
def SD (w0 : World) (H0 : IHeap) (M0 : List Nat) (H : IHeap) (l : List (Nat × Own)) (w : World) : Prop := ∃ H' O', Le H H' ∧ St w0 H0 M0 H' O' w ∧ allIn O' l
theorem SD.sub {w0 : World} {H0 : IHeap} {M0 : List Nat} {H : IHeap} {l : List (Nat × Own)} {w : World} (h : SD w0 H0 M0 H l w) : Sub H w := by
 obtain ⟨H', O', hle, hst, _⟩ := h
 exact fun b o e => hst.sub b o (hle b o e)
theorem allIn_lookup {O : OHeap} : ∀ {l : List (Nat × Own)}, allIn O l → ∀ {k : Nat} {p : Own}, l.lookup k = some p → O k = some p
 | [], _, k, p, h => by cases h
 | x :: l, ha, k, p, h => by
  simp only [List.lookup] at h
  split at h
  ·next e =>
   have : k = x.1 := by simpa using e
   subst this; rw [← h]; exact ha.1
  ·exact allIn_lookup ha.2 h
theorem x_ldD {w0 : World} {H0 : IHeap} {M0 : List Nat} {H : IHeap} {l : List (Nat × Own)} {t : TypeId} {x : Operand} {g i : Nat} {dst : Option Tmp} {gd : Option (Nat × Bool)} {ty : TypeId} {pos : String} {after : Array Edge} (k : Nat) {cs : List Value} {e : TypeId} (v : Value) (hS : SD w0 H0 M0 H l w) (hk' : l.lookup k = some (.blk g cs e)) (hx : rv r x = .pointer (some ⟨g, i, none⟩))
  (hv : cs[i]? = some v) (ht : tyOne P t = true) : (execOp (rv r) ⟨dst, .load t x, ty, pos, after, gd⟩).run P w = .ok (.value v) w := by
 obtain ⟨H', O', hle, hst, ha⟩ := hS
 exact x_ld k v hst (allIn_lookup ha hk') hx hv ht
theorem x_ldsD {w0 : World} {H0 : IHeap} {M0 : List Nat} {H : IHeap} {l : List (Nat × Own)} {t : TypeId} {x : Operand} {g i m : Nat} {dst : Option Tmp} {gd : Option (Nat × Bool)} {ty : TypeId} {pos : String} {after : Array Edge} (k : Nat) {cs : List Value} {e : TypeId} (us : List Value) (hS : SD w0 H0 M0 H l w) (hk' : l.lookup k = some (.blk g cs e)) (hx : rv r x = .pointer (some ⟨g, i, none⟩))
  (ht : tyAgg P t = some m) (hv : (cs.drop i).take m = us) (hl : us.length = m) : (execOp (rv r) ⟨dst, .load t x, ty, pos, after, gd⟩).run P w = .ok (.value (.agg us.toArray)) w := by
 obtain ⟨H', O', hle, hst, ha⟩ := hS
 exact x_lds k us hst (allIn_lookup ha hk') hx ht hv hl
end
end Go.Sw

/- The walk's judgements: a piece of code run from registers and a world; rules for the control forms. -/
import Derived.Orders
import Derived.OrdersHeld
import Derived.Tactics
import Derived.Below
set_option linter.unusedVariables false
set_option linter.unusedSimpArgs false
namespace Go.Sw
abbrev Regs := Nat → Value
def upd (r : Regs) (d : Nat) (v : Value) : Regs := fun i => bif Nat.beq d i then v else r i
/-- The act holds these registers. -/
structure Sts (n : Nat) (r : Regs) (a : Act) : Prop where
 sz : a.tmps.size = n
 ev : ∀ i, a.tmps.getD i undef = r i
 df : a.defers = []
theorem Sts.put {n : Nat} {r : Regs} {a : Act} (h : Sts n r a) (d : Nat) (hd : Nat.blt d n = true) (v : Value) : Sts n (upd r d v) (a.put (some d) v) := by
 have hd' : d < n := by simpa [Nat.blt_eq] using hd
 refine ⟨by simp [Act.put, h.sz], fun i => ?_, by simp [Act.put, h.df]⟩
 simp only [Act.put, upd, Array.getD_eq_getD_getElem?, Array.getElem?_setIfInBounds]
 by_cases e : d = i
 ·subst e; simp [h.sz, hd']
 ·have hb : Nat.beq d i = false := by
   cases hh : Nat.beq d i
   ·rfl
   ·exact absurd (Nat.eq_of_beq_eq_true hh) e
  simp only [e, if_false, hb, cond_false]
  have := h.ev i
  rw [Array.getD_eq_getD_getElem?] at this
  exact this
/-- What a piece of code may end in. -/
abbrev Cont := Regs → World → Prop
def lift (n : Nat) (N : Cont) (X : List (Nat × Cont)) (R : Cont) : Exit → Act → World → Prop
 | .normal, a, w => ∃ r, Sts n r a ∧ N r w
 | .ret, a, w => ∃ r, Sts n r a ∧ R r w
 | .exit id, a, w => ∃ K, X.lookup id = some K ∧ ∃ r, Sts n r a ∧ K r w
 | _, _, _ => False
/-- Code run. -/
def W (P : Program) (n : Nat) (c : Code) (N : Cont) (X : List (Nat × Cont)) (R : Cont) (r : Regs) (w : World) : Prop :=
 ∀ a, Sts n r a → c.wp P (lift n N X R) a w
/-- A region's list of operations run, in the text's order. -/
def WL (P : Program) (n : Nat) (ops : Array Oper) (l : List Oper) (N : Cont) (r : Regs) (w : World) : Prop :=
 ∀ (X : List (Nat × Cont)) (R : Cont) a, Sts n r a → wpList P ops (lift n N X R) l a w
section
variable {P : Program} {n : Nat} {N R : Cont} {X : List (Nat × Cont)} {r : Regs} {w : World}
theorem W.mono {c : Code} {N' : Cont} (h : W P n c N X R r w) (hn : ∀ r w, N r w → N' r w) : W P n c N' X R r w := fun a ha =>
 wp_mono (h a ha) fun e a' w' hq => by
  cases e with
  | normal => obtain ⟨r', h1, h2⟩ := hq; exact ⟨r', h1, hn _ _ h2⟩
  | _ => exact hq
theorem W.skip (h : N r w) : W P n .skip N X R r w := fun _ ha => wp_skip ⟨r, ha, h⟩
theorem W.ret (h : R r w) : W P n .ret N X R r w := fun _ ha => wp_ret ⟨r, ha, h⟩
theorem W.exit {id : Nat} (K : Cont) (hk : X.lookup id = some K) (h : K r w) : W P n (.exit id) N X R r w := fun _ ha => wp_exit ⟨K, hk, r, ha, h⟩
theorem W.seq {x y : Code} (h : W P n x (fun r w => W P n y N X R r w) X R r w) : W P n (.seq x y) N X R r w := fun a ha =>
 wp_seq (wp_mono (h a ha) fun e a' w' hq => by
  cases e with
  | normal => obtain ⟨r', h1, h2⟩ := hq; exact h2 a' h1
  | _ => exact hq)
theorem W.block {id : Nat} {c : Code} (h : W P n c N ((id, N) :: X) R r w) : W P n (.block id c) N X R r w := fun a ha =>
 wp_block (wp_mono (h a ha) fun e a' w' hq => by
  cases e with
  | exit j =>
   obtain ⟨K, hk, hr⟩ := hq
   simp only [Exit.inBlock]
   split
   ·next e => subst e; simp [List.lookup] at hk; subst hk; exact hr
   ·next e =>
    refine ⟨K, ?_, hr⟩
    have : (j == id) = false := by simpa using e
    simpa [List.lookup, this] using hk
  | _ => exact hq)
/-- An operand's value. -/
def rv (r : Regs) : Operand → Value
 | .tmp t => r t
 | .const v => v
 | .global g => .pointer (some ⟨g, 0, none⟩)
 | .func f => .func (.func f) #[] #[]
theorem Sts.eval {a : Act} (ha : Sts n r a) (x : Operand) : a.eval x = rv r x := by
 cases x with
 | tmp t => exact ha.ev t
 | const v => rfl
 | global g => rfl
 | func f => rfl
theorem Sts.eval_fun {a : Act} (ha : Sts n r a) : a.eval = rv r := funext ha.eval
theorem W.cond {i : Nat} {x y : Code} (b : Bool) (hb : r i = .bool b) (ht : b = true → W P n x N X R r w) (hf : b = false → W P n y N X R r w) :
  W P n (.cond (.tmp i) x y) N X R r w := fun a ha =>
 wp_cond_split (t := b) ((ha.eval (.tmp i)).trans hb) (fun h => ht h a ha) (fun h => hf h a ha)
theorem W.cond_t {i : Nat} {x y : Code} (hb : r i = .bool true) (ht : W P n x N X R r w) : W P n (.cond (.tmp i) x y) N X R r w := fun a ha =>
 wp_cond_true ((ha.eval (.tmp i)).trans hb) (ht a ha)
theorem W.cond_f {i : Nat} {x y : Code} (hb : r i = .bool false) (ht : W P n y N X R r w) : W P n (.cond (.tmp i) x y) N X R r w := fun a ha =>
 wp_cond_false ((ha.eval (.tmp i)).trans hb) (ht a ha)
/-- What stands behind a test, in the mirror too. -/
theorem W.test {ρ : Type} {i : Nat} {x y : Code} {b : Bool} {A B : Option ρ} {res : ρ} (hb : r i = .bool b) (hm : (bif b then A else B) = some res)
  (ht : b = true → A = some res → W P n x N X R r w) (hf : b = false → B = some res → W P n y N X R r w) : W P n (.cond (.tmp i) x y) N X R r w :=
 W.cond b hb (fun e => ht e (by subst e; exact hm)) (fun e => hf e (by subst e; exact hm))
/-- A loop: what holds at each round's head, with a number that goes down. -/
theorem W.loop {c : Code} (I : Nat → Cont) (k : Nat) (h0 : I k r w)
  (round : ∀ k r w, I k r w → W P n c (fun r w => ∃ k', k' < k ∧ I k' r w) X R r w) : W P n (.loop c) N X R r w := fun a ha b todo cs => by
 have key : ∀ k a r w, Sts n r a → I k r w →
   ∃ e a' w', lift n N X R e a' w' ∧ Arrives P (lone (b.at a (.code c :: .inLoop c :: todo)) cs w) b todo cs e a' w' := by
  intro k
  induction k using Nat.strongRecOn with
  | _ k ih =>
   intro a r w ha hI
   obtain ⟨e, a₁, w₁, hq, harr⟩ := round k r w hI a ha b (.inLoop c :: todo) cs
   cases e with
   | normal =>
    obtain ⟨r₁, h1, k₁, hlt, hI₁⟩ := hq
    obtain ⟨e₂, a₂, w₂, hq₂, harr₂⟩ := ih k₁ hlt a₁ r₁ w₁ h1 hI₁
    exact ⟨e₂, a₂, w₂, hq₂, .of_steps (Steps.trans harr (.one step_inLoop)) harr₂⟩
   | exit id => exact ⟨.exit id, a₁, w₁, hq, .pass (x := .inLoop c) rfl (fun _ _ => .inl (by simp)) harr⟩
   | goto l => exact hq.elim
   | ret => exact ⟨.ret, a₁, w₁, hq, .pass (x := .inLoop c) rfl (fun _ _ => .inl (by simp)) harr⟩
   | panic ch => exact hq.elim
   | outgrown => exact hq.elim
 obtain ⟨e, a', w', hq, harr⟩ := key k a r w ha h0
 exact ⟨e, a', w', hq, .of_steps (.one step_loop) harr⟩
/-- Other ends for the exits. -/
theorem W.exits {c : Code} {X' : List (Nat × Cont)} (h : W P n c N X' R r w) (hx : ∀ id K', X'.lookup id = some K' → ∃ K, X.lookup id = some K ∧ ∀ r w, K' r w → K r w) : W P n c N X R r w := fun a ha =>
 wp_mono (h a ha) fun e a' w' hq => by
  cases e with
  | exit id =>
   obtain ⟨K', hk, r', h1, h2⟩ := hq
   obtain ⟨K, hk2, hh⟩ := hx id K' hk
   exact ⟨K, hk2, r', h1, hh _ _ h2⟩
  | _ => exact hq
/-- A loop in its block: what holds at each round's head, and what holds when it is left. -/
theorem W.blockLoop {id : Nat} {c : Code} (J : Cont) (I : Nat → Cont) (k : Nat) (h0 : I k r w)
  (round : ∀ k r w, I k r w → W P n c (fun r w => ∃ k', k' < k ∧ I k' r w) ((id, J) :: X) R r w) (hout : ∀ r w, J r w → N r w) : W P n (.block id (.loop c)) N X R r w :=
 W.block (W.exits (X' := (id, J) :: X) (W.loop I k h0 round) fun j K' hk => by
  simp only [List.lookup] at hk ⊢
  split at hk
  ·next e => simp only [Option.some.injEq] at hk; subst hk; exact ⟨N, rfl, hout⟩
  ·next e => exact ⟨K', hk, fun _ _ h => h⟩)
theorem W.region {id : Nat} {l : List Oper} (h : WL P n l.toArray l N r w) : W P n (.region id l.toArray false) N X R r w := fun a ha => wp_region_lit (h X R a ha)
theorem WL.nil {ops : Array Oper} (h : N r w) : WL P n ops [] N r w := fun _ _ _ ha => wpList_nil ⟨r, ha, h⟩
end
/-- What an operation does: it leaves a value, or calls a function. -/
def Does (P : Program) (o : Oper) (ρ : Operand → Value) (w : World) (K : Value → World → Prop) : Prop :=
 match (execOp ρ o).run P w with
 | .ok (.value v) w' => K v w'
 | .ok .skip w' => K undef w'
 | .ok (.enter f args) w' => Calls P f args w' fun e w'' => ∃ v, e = .returned v ∧ K v w''
 | _ => False
theorem Does.mono {P : Program} {o : Oper} {ρ : Operand → Value} {w : World} {K K' : Value → World → Prop} (h : Does P o ρ w K) (hk : ∀ v w', K v w' → K' v w') : Does P o ρ w K' := by
 unfold Does at *
 split at h
 ·exact hk _ _ h
 ·exact hk _ _ h
 ·exact h.mono fun e w'' ⟨v, he, hv⟩ => ⟨v, he, hk _ _ hv⟩
 ·exact h
theorem Does.wp {P : Program} {o : Oper} {a : Act} {w : World} {K : Value → World → Prop} {next : Act → World → Prop} {Q : Exit → Act → World → Prop}
  (h : Does P o a.eval w K) (hk : ∀ v w', K v w' → next (a.put o.dst v) w') : o.wp P a w next Q := by
 unfold Does at h
 unfold Oper.wp
 split at h
 ·next v w' e => rw [e]; exact hk _ _ h
 ·next w' e => rw [e]; exact hk _ _ h
 ·next f args w' e =>
  rw [e]
  refine h.mono fun e w'' ⟨v, he, hv⟩ => ?_
  subst he
  exact hk _ _ hv
 ·exact h.elim
section
variable {P : Program} {n : Nat} {N : Cont} {r : Regs} {w : World} {ops : Array Oper} {rest : List Oper}
/-- One unguarded operation, with a destination. -/
theorem WL.op {d : Nat} {op : Op} {t : TypeId} {pos : String} {after : Array Edge} (K : Value → World → Prop)
  (h : Does P ⟨some d, op, t, pos, after, none⟩ (rv r) w K) (hk : ∀ v w', K v w' → WL P n ops rest N (upd r d v) w') (hd : Nat.blt d n = true := by rfl) :
  WL P n ops (⟨some d, op, t, pos, after, none⟩ :: rest) N r w := fun X R a ha =>
 wpList_plain rfl fun K' hK' => Does.wp (by rw [ha.eval_fun]; exact h) fun v w' hv => hK' _ _ (hk v w' hv X R _ (ha.put d hd v))
theorem WL.op0 {op : Op} {t : TypeId} {pos : String} {after : Array Edge} (K : Value → World → Prop)
  (h : Does P ⟨none, op, t, pos, after, none⟩ (rv r) w K) (hk : ∀ v w', K v w' → WL P n ops rest N r w') :
  WL P n ops (⟨none, op, t, pos, after, none⟩ :: rest) N r w := fun X R a ha =>
 wpList_plain rfl fun K' hK' => Does.wp (by rw [ha.eval_fun]; exact h) fun v w' hv => hK' _ _ (hk v w' hv X R _ ha)
/-- A guarded operation: carried out, or passed by. -/
theorem WL.yes {d j t' : Nat} {b : Bool} {op : Op} {t : TypeId} {pos : String} {after : Array Edge} (hj : (ops[j]?).bind (·.dst) = some t') (hb : r t' = .bool b)
  (h : WL P n ops (⟨some d, op, t, pos, after, none⟩ :: rest) N r w) (ht : Nat.blt t' n = true := by rfl) : WL P n ops (⟨some d, op, t, pos, after, some (j, b)⟩ :: rest) N r w := fun X R a ha => by
 have hw : Region.wanted ⟨some d, op, t, pos, after, some (j, b)⟩ (yielded ops a.tmps) = true := by
  have h1 : a.tmps[t']? = some (.bool b) := by
   have h2 := (ha.ev t').trans hb
   have h3 : t' < a.tmps.size := by rw [ha.sz]; simpa [Nat.blt_eq] using ht
   rw [Array.getElem?_eq_getElem h3]
   simpa [Array.getD, h3] using h2
  simp [Region.wanted, yielded, hj, h1]
 have hw' : Region.wanted ⟨some d, op, t, pos, after, none⟩ (yielded ops a.tmps) = true := rfl
 have := h X R a ha
 unfold wpList at this ⊢
 rw [if_pos hw'] at this
 rw [if_pos hw]
 exact this
theorem WL.no {d j t' : Nat} {b b' : Bool} {op : Op} {t : TypeId} {pos : String} {after : Array Edge} (hj : (ops[j]?).bind (·.dst) = some t') (hb : r t' = .bool b')
  (hne : (b' == b) = false) (h : WL P n ops rest N (upd r d undef) w) (ht : Nat.blt t' n = true := by rfl) (hd : Nat.blt d n = true := by rfl) :
  WL P n ops (⟨some d, op, t, pos, after, some (j, b)⟩ :: rest) N r w := fun X R a ha => by
 have hw : ¬ Region.wanted ⟨some d, op, t, pos, after, some (j, b)⟩ (yielded ops a.tmps) = true := by
  have h1 : a.tmps[t']? = some (.bool b') := by
   have h2 := (ha.ev t').trans hb
   have h3 : t' < a.tmps.size := by rw [ha.sz]; simpa [Nat.blt_eq] using ht
   rw [Array.getElem?_eq_getElem h3]
   simpa [Array.getD, h3] using h2
  have : ¬ b' = b := by simpa using hne
  simp [Region.wanted, yielded, hj, h1, this]
 unfold wpList
 rw [if_neg hw]
 exact h X R _ (ha.put d hd _)
theorem WL.nou {d j t' : Nat} {b : Bool} {op : Op} {t : TypeId} {pos : String} {after : Array Edge} (hj : (ops[j]?).bind (·.dst) = some t') (hb : r t' = undef)
  (h : WL P n ops rest N (upd r d undef) w) (ht : Nat.blt t' n = true := by rfl) (hd : Nat.blt d n = true := by rfl) :
  WL P n ops (⟨some d, op, t, pos, after, some (j, b)⟩ :: rest) N r w := fun X R a ha => by
 have hw : ¬ Region.wanted ⟨some d, op, t, pos, after, some (j, b)⟩ (yielded ops a.tmps) = true := by
  have h1 : a.tmps[t']? = some undef := by
   have h2 := (ha.ev t').trans hb
   have h3 : t' < a.tmps.size := by rw [ha.sz]; simpa [Nat.blt_eq] using ht
   rw [Array.getElem?_eq_getElem h3]
   simpa [Array.getD, h3] using h2
  simp [Region.wanted, yielded, hj, h1, undef]
 unfold wpList
 rw [if_neg hw]
 exact h X R _ (ha.put d hd _)
end
/-- A function's results, as its registers tell them. -/
def tupled : List Value → Value
 | [v] => v
 | l => .tuple l.toArray
theorem run_retv {fn : Func} {ts : List Nat} (hp : fn.results = (ts.map ResultVar.tmp).toArray) (hl : Nat.ble ts.length 5 = true) {n : Nat} {r : Regs} {a : Act} (ha : Sts n r a) (P : Program) (w : World) :
  (results fn a.tmps).run P w = .ok (tupled (ts.map r)) w := by
 have hev : ∀ i, a.tmps[i]?.getD undef = r i := fun i => by rw [← Array.getD_eq_getD_getElem?]; exact ha.ev i
 match ts, hl with
 | [], _ => simp [results, hp, tupled]
 | [t], _ => simp [results, hp, tupled, hev]
 | [t, u], _ => simp [results, hp, tupled, hev]
 | [t, u, v], _ => simp [results, hp, tupled, hev]
 | [t, u, v, x], _ => simp [results, hp, tupled, hev]
 | [t, u, v, x, y], _ => simp [results, hp, tupled, hev]
 | _ :: _ :: _ :: _ :: _ :: _ :: l, hl => exact absurd (Nat.le_of_ble_eq_true hl) (by simp)
def initRegs (args : Array Value) : Regs := fun i => args.getD i undef
theorem calls_of_W {P : Program} {f : FuncId} {fn : Func} {c : Code} {args : Array Value} {w : World} {R : Value → World → Prop} (hf : P.funcs[f]? = some fn) (hb : fn.body = some c)
  {ts : List Nat} (hp : fn.results = (ts.map ResultVar.tmp).toArray) (hl : Nat.ble ts.length 5 = true) (hs : args.size ≤ fn.ntmps)
  (h : W P fn.ntmps c (fun r w => R (tupled (ts.map r)) w) [] (fun r w => R (tupled (ts.map r)) w) (initRegs args) w) :
  Calls P f args w fun e w' => ∃ v, e = .returned v ∧ R v w' := by
 refine calls_of_wp hf hb ?_
 refine wp_mono (h _ ⟨by simp; omega, fun i => ?_, rfl⟩) fun e a w' hq => ?_
 ·simp only [initRegs, Array.getD_eq_getD_getElem?]
  rcases Nat.lt_or_ge i args.size with h | h
  ·rw [Array.getElem?_append_left h]
  ·rw [Array.getElem?_append_right h, Array.getElem?_eq_none h, Array.getElem?_replicate]
   split <;> rfl
 ·cases e with
  | normal => obtain ⟨r, ha, hr⟩ := hq; exact ⟨ha.df, _, run_retv hp hl ha P w', _, rfl, hr⟩
  | ret => obtain ⟨r, ha, hr⟩ := hq; exact ⟨ha.df, _, run_retv hp hl ha P w', _, rfl, hr⟩
  | exit id => obtain ⟨K, hk, _⟩ := hq; simp at hk
  | goto l => exact hq.elim
  | panic c => exact hq.elim
  | outgrown => exact hq.elim
end Go.Sw

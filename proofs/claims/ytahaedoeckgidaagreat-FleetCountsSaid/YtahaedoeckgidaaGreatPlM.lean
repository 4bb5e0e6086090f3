/- The plain law: a node works; a frame is delivered. -/
import Derived.Test.YtahaedoeckgidaaGreatPlL
set_option linter.unusedVariables false
set_option linter.unusedSimpArgs false
namespace Go.Sw.FL
section
variable {m : ApiModel} {ts0 : List (List Int)} {d : Nat}
theorem ieq4 (k q : LedgerKey) : ieqs [k.Batch, k.Layer, k.Token, k.Rank] [q.Batch, q.Layer, q.Token, q.Rank] = decide (k = q) := by
  have e : ∀ u v : Int, (u == v) = decide (u = v) := fun u v => by by_cases h : u = v <;> simp [h]
  cases k; cases q
  simp only [ieqs, e, LedgerKey.mk.injEq, Bool.and_true, Bool.decide_and]
theorem find_l1 (q : LedgerKey) : ∀ (l : List LedgerEntry) (i : Nat), ((∀ x ∈ l, x.Key ≠ q) ∧ slices_IndexFunc_ledger_Entry_ledger_Find_1_l1 q l i = some (.out ())) ∨ ∃ j : Nat, j < l.length ∧ (at0 l (j : Int)).Key = q ∧ slices_IndexFunc_ledger_Entry_ledger_Find_1_l1 q l i = some (.ret ((i + j : Nat) : Int))
  | [], i => .inl ⟨fun x hx => absurd hx (by simp), rfl⟩
  | x :: l, i => by
    have hx : ledger_Find_1 x q = some (decide (x.Key = q)) := by unfold ledger_Find_1; rw [ieq4]
    rw [slices_IndexFunc_ledger_Entry_ledger_Find_1_l1]
    by_cases h : x.Key = q
    · exact .inr ⟨0, by simp, h, bd_s hx (cb_t (decide_eq_true h) rfl)⟩
    · rcases find_l1 q l (i + 1) with ⟨h1, h2⟩ | ⟨j, h1, h2, h3⟩
      · refine .inl ⟨fun y hy => ?_, bd_s hx (cb_f (decide_eq_false h) h2)⟩
        rcases List.mem_cons.1 hy with e | hy
        · rw [e]; exact h
        · exact h1 y hy
      · refine .inr ⟨j + 1, by simp; omega, ?_, bd_s hx (cb_f (decide_eq_false h) ?_)⟩
        · rw [at0_nat (by simp; omega)]; rw [at0_nat h1] at h2; simpa using h2
        · rw [h3]; congr 3; omega
theorem find_eq (q : LedgerKey) (l : List LedgerEntry) (hv : ∀ x ∈ l, x.Vec.length ≤ 1000) : ((∀ x ∈ l, x.Key ≠ q) ∧ ledger_Find l q = some ([], false)) ∨ ∃ x ∈ l, x.Key = q ∧ ledger_Find l q = some (x.Vec, true) := by
  unfold ledger_Find slices_IndexFunc_ledger_Entry_ledger_Find_1
  rcases find_l1 q l 0 with ⟨h1, h2⟩ | ⟨j, h1, h2, h3⟩
  · exact .inl ⟨h1, bd_s (bd_s h2 rfl) (bif_t (by decide) rfl)⟩
  · have hm : at0 l (j : Int) ∈ l := at0_mem (by omega) (by omega)
    refine .inr ⟨at0 l (j : Int), hm, h2, bd_s (x := (j : Int)) (bd_s h3 (by simp)) (bif_f (by omega) (cb_t (inb_nat h1) (bd_s (clone_eq (by have := hv _ hm; omega)) rfl)))⟩
theorem led_vec (C : Ctx m ts0 d) {l : List LedgerEntry} (h : ledOk m ts0 l) : ∀ x ∈ l, x.Vec.length ≤ 1000 := fun x hx => by
  obtain ⟨L, p, h1, h2, rfl⟩ := h.1 x hx
  have := (VM_ok C h1 h2).1
  have := C.d8
  show (VM m ts0 L p).length ≤ 1000
  omega
theorem key_uniq {L L' : Nat} {p p' : ModelPart} (hp : p ∈ PM m ts0 L) (hp' : p' ∈ PM m ts0 L') (h : (⟨1, (L : Int), p.Token, p.Rank⟩ : LedgerKey) = ⟨1, (L' : Int), p'.Token, p'.Rank⟩) : L = L' ∧ p = p' := by
  simp only [LedgerKey.mk.injEq] at h
  have : L = L' := by omega
  subst this
  exact ⟨rfl, pm_uniq (PM_ne L) hp hp' h.2.2.1 h.2.2.2⟩
def keyF (L : Nat) (p : ModelPart) : LedgerKey := ⟨1, (L : Int), p.Token, p.Rank⟩
theorem tok1 (C : Ctx m ts0 d) {v : List Int} (hl : v.length = d) (hv : ∀ n ∈ v, ok n) : model_Tokens m [v] = some true := by
  rw [tokR_eq]
  have : rowB m.Dim v = true := by
    unfold rowB
    rw [C.dim, hl, Bool.and_eq_true, List.all_eq_true]
    exact ⟨by simp, fun n hn => okB_iff.2 (hv n hn)⟩
  simp [tokB, this]
theorem fits_eq (C : Ctx m ts0 d) {q : PlaceMap} (hq : plP q) {L : Nat} {p : ModelPart} {to e : Int} (h : okFr m ts0 (.ask L p to e)) : node_fits m q to (msgF m ts0 (.ask L p to e)) = some true := by
  have hk := msg_ok C h
  obtain ⟨h1, h2, h3, h4⟩ := h
  simp only [Fr.L, Fr.p, Fr.nd, Fr.e] at h1 h2 h3 h4
  obtain ⟨p1, p2, p3⟩ := PM_ok h2
  obtain ⟨t1, t2⟩ := tok_ok C h1 h2
  unfold node_fits
  refine bd_s ((modR_eq m).trans (by rw [C.mb])) (cb_t rfl (bd_s ((plR_eq q).trans (by rw [(plB_iff q).2 hq])) (cb_t rfl (bd_s (wright_eq hk) (cb_t ?_ (cb_t (inb_nat h1) (bif_t p3.2 (bd_s (tok1 C t1 t2) rfl))))))))
  show (((true && ((1 : Int) == 1)) && (to == to)) && decide ((L : Int) < (m.Layers.length : Int))) = true
  simp; omega
/-- What a node does with an ask. -/
theorem work_eq (C : Ctx m ts0 d) {q : PlaceMap} (hq : plP q) (ph : ∀ l ∈ m.Layers, l.Experts.length ≤ q.Holders.length) {l : List LedgerEntry} (hl : ledOk m ts0 l) {L : Nat} {p : ModelPart} {to e : Int} (h : okFr m ts0 (.ask L p to e)) :
    ∃ l' x, node_Work m q to l (msgF m ts0 (.ask L p to e)) = some (l', msgF m ts0 x, true) ∧ okFr m ts0 x ∧ ledOk m ts0 l' ∧ x.w = 1 ∧
      ((x = .sta L p to q.Epoch ∧ l' = l ∧ ¬ (e = q.Epoch ∧ to ∈ at0 q.Holders p.Expert)) ∨
       (x = .rep L p to q.Epoch ∧ (e = q.Epoch ∧ to ∈ at0 q.Holders p.Expert) ∧ ((l' = l ∧ ∃ y ∈ l, y.Key = keyF L p) ∨ ((∀ y ∈ l, y.Key ≠ keyF L p) ∧ l' = l ++ [⟨keyF L p, VM m ts0 L p⟩])))) := by
  have hf := fits_eq C hq h
  have hk := msg_ok C h
  obtain ⟨h1, h2, h3, h4⟩ := h
  simp only [Fr.L, Fr.p, Fr.nd, Fr.e] at h1 h2 h3 h4
  obtain ⟨p1, p2, p3⟩ := PM_ok h2
  obtain ⟨t1, t2⟩ := tok_ok C h1 h2
  have hph := ph _ (at0_mem (xs := m.Layers) (i := (L : Int)) (by omega) (by omega))
  have hs : okFr m ts0 (.sta L p to q.Epoch) := ⟨h1, h2, h3, hq.2.1⟩
  have hr : okFr m ts0 (.rep L p to q.Epoch) := ⟨h1, h2, h3, hq.2.1⟩
  have hho := holds_eq q p.Expert to p3.1 (by omega)
  unfold node_Work
  by_cases he : e = q.Epoch
  · by_cases hm : to ∈ at0 q.Holders p.Expert
    · rcases find_eq (keyF L p) l (led_vec C hl) with ⟨f1, f2⟩ | ⟨y, f0, f1, f2⟩
      · have hrun : expert_Run (⟨(at0 ((at0 m.Layers (L : Int)).Experts) p.Expert).In, (at0 ((at0 m.Layers (L : Int)).Experts) p.Expert).Out⟩ : ApiExpert) (at0 (tk m ts0 L) p.Token) = some (VM m ts0 L p, true) := run_eq (ans_len (C.lt h1) (parts_mem h2)).2
        have hen : ledger_Enter l (keyF L p) (VM m ts0 L p) = some (l ++ [⟨keyF L p, VM m ts0 L p⟩], true) := by
          have hll := led_len hl
          have hb : m.Layers.length * ts0.length * 2 ≤ 128 := by
            have := Nat.mul_le_mul C.n4 C.t16; omega
          have hvl := (VM_ok C h1 h2).1
          have hd8 := C.d8
          unfold ledger_Enter slices_Clone_ledger_Entry slices_Clone_int
          refine bd_s f2 (cb_f rfl (bd_s (clone_eq (by omega)) (bd_s (clone_eq (by omega)) (cb_t (lim_t (by simp; omega)) rfl))))
        refine ⟨l ++ [⟨keyF L p, VM m ts0 L p⟩], .rep L p to q.Epoch, ?_, hr, ⟨fun x hx => ?_, ?_⟩, rfl, .inr ⟨rfl, ⟨he, hm⟩, .inr ⟨f1, rfl⟩⟩⟩
        · refine bd_s hf (cb_f rfl (cb_f ?_ (bd_s hho (cb_f (by rw [decide_eq_true hm]; rfl) (bd_s f2 (cb_t rfl (cb_t (inb_nat h1) (cb_t ?_ (bd_s hrun (bd_s hen rfl)))))))))) 
          · show (e != q.Epoch) = false
            simpa using he
          · show inb p.Expert _ = true
            simp [inb]; exact p3
        · rcases List.mem_append.1 hx with hx | hx
          · exact hl.1 x hx
          · simp only [List.mem_cons, List.not_mem_nil, or_false] at hx
            exact ⟨L, p, h1, h2, hx⟩
        · rw [List.pairwise_append]
          refine ⟨hl.2, by simp, fun a ha b hb => ?_⟩
          simp only [List.mem_cons, List.not_mem_nil, or_false] at hb
          subst hb
          exact f1 a ha
      · have hyv : y.Vec = VM m ts0 L p := by
          obtain ⟨L', p', a1, a2, rfl⟩ := hl.1 y f0
          obtain ⟨b1, b2⟩ := key_uniq a2 h2 f1
          subst b1; subst b2; rfl
        rw [hyv] at f2
        refine ⟨l, .rep L p to q.Epoch, ?_, hr, hl, rfl, .inr ⟨rfl, ⟨he, hm⟩, .inl ⟨rfl, y, f0, f1⟩⟩⟩
        refine bd_s hf (cb_f rfl (cb_f ?_ (bd_s hho (cb_f (by rw [decide_eq_true hm]; rfl) (bd_s f2 (cb_f rfl rfl))))))
        show (e != q.Epoch) = false
        simpa using he
    · refine ⟨l, .sta L p to q.Epoch, ?_, hs, hl, rfl, .inl ⟨rfl, rfl, fun hh => hm hh.2⟩⟩
      refine bd_s hf (cb_f rfl (cb_f ?_ (bd_s hho (cb_t (by rw [decide_eq_false hm]; rfl) rfl))))
      show (e != q.Epoch) = false
      simpa using he
  · refine ⟨l, .sta L p to q.Epoch, ?_, hs, hl, rfl, .inl ⟨rfl, rfl, fun hh => he hh.1⟩⟩
    refine bd_s hf (cb_f rfl (cb_t ?_ rfl))
    show (e != q.Epoch) = true
    simpa using he
/-! ### a frame is taken -/
theorem btake_eq (pre post : List Fr) (x : Fr) (hl : (pre ++ x :: post).length ≤ 200) : bag_Take ((pre ++ x :: post).map (str m ts0)) (pre.length : Int) = some (str m ts0 x, (pre ++ post).map (str m ts0), true) := by
  have hlt : pre.length < ((pre ++ x :: post).map (str m ts0)).length := by simp
  have hw : i64w ((pre.length : Int) + 1) = ((pre.length + 1 : Nat) : Int) := by
    rw [i64w_eq] <;> simp at hl ⊢ <;> omega
  unfold bag_Take slices_Clone_string slices_Delete_string
  refine cb_f (by simp; omega) (cb_t (inb_nat hlt) (bd_s (clone_eq (by simpa using by simp at hl; omega)) ?_))
  rw [hw]
  refine bd_s (x := (pre ++ post).map (str m ts0)) ?_ ?_
  · unfold deleteM
    refine cb_t (by simp [cutOk]; omega) ?_
    congr 1
    simp only [List.map_append, List.map_cons, Int.toNat_natCast]
    have e1 : pre.length = (pre.map (str m ts0)).length := by simp
    have e2 : pre.map (str m ts0) ++ str m ts0 x :: post.map (str m ts0) = (pre.map (str m ts0) ++ [str m ts0 x]) ++ post.map (str m ts0) := by simp
    have e3 : pre.length + 1 = (pre.map (str m ts0) ++ [str m ts0 x]).length := by simp
    congr 1
    · conv => lhs; rw [e1, List.take_left]
    · rw [e2, e3, List.drop_left]
  · rw [at0_nat hlt]; simp
theorem btake_out (b : List Str) (i : Int) (h : i < 0 ∨ (b.length : Int) ≤ i) (hb : b.length ≤ 200) : bag_Take b i = some ([], b, false) := by
  unfold bag_Take slices_Clone_string
  refine cb_t (by simpa using h) (bd_s (clone_eq (by omega)) rfl)
def delA (f : FleetFleet) (frs : List Fr) (m : ApiModel) (ts0 : List (List Int)) (to : Int) (l' : List LedgerEntry) : FleetFleet := { f with bag := frs.map (str m ts0), ledgers := f.ledgers.set to.toNat l' }
theorem deliver_ask (C : Ctx m ts0 d) {f : FleetFleet} {A : Nat} {pre post : List Fr} {L : Nat} {p : ModelPart} {to e : Int} (h : WInv m ts0 f A (pre ++ .ask L p to e :: post)) :
    ∃ l' x, fleet_Fleet_Deliver f (pre.length : Int) = some (delA f (pre ++ post ++ [x]) m ts0 to l', 0) ∧ WInv m ts0 (delA f (pre ++ post ++ [x]) m ts0 to l') A (pre ++ post ++ [x]) ∧ x.w = 1 ∧
      ((x = .sta L p to f.p.Epoch ∧ l' = at0 f.ledgers to ∧ ¬ (e = f.p.Epoch ∧ to ∈ at0 f.p.Holders p.Expert)) ∨
       (x = .rep L p to f.p.Epoch ∧ (e = f.p.Epoch ∧ to ∈ at0 f.p.Holders p.Expert) ∧ ((l' = at0 f.ledgers to ∧ ∃ y ∈ at0 f.ledgers to, y.Key = keyF L p) ∨ ((∀ y ∈ at0 f.ledgers to, y.Key ≠ keyF L p) ∧ l' = at0 f.ledgers to ++ [⟨keyF L p, VM m ts0 L p⟩])))) := by
  have hok := h.bok (.ask L p to e) (by simp)
  have hlen := h.b200
  have hto : 1 ≤ to ∧ to ≤ 4 := hok.2.2.1
  have hlm : at0 f.ledgers to ∈ f.ledgers := at0_mem (by omega) (by rw [h.lg]; omega)
  obtain ⟨l', x, w1, w2, w3, w4, w5⟩ := work_eq C h.pl h.ph (h.lok _ hlm) hok
  have hl2 : (pre ++ post).length < 200 := by simp at hlen ⊢; omega
  refine ⟨l', x, ?_, ⟨h.fm, h.pl, h.ph, by simp [delA, h.lg], fun y hy => ?_, ?_, rfl, fun y hy => ?_, by simp at hl2 ⊢; omega, h.fat, h.an, h.tok, h.prt⟩, w4, w5⟩
  · unfold fleet_Fleet_Deliver
    rw [h.bg]
    refine bd_s (btake_eq pre post _ hlen) (cb_f rfl (bd_s (take_eq (msg_ok C hok)) (cb_f rfl (cb_f ?_ (bif_t ?_ (cb_t ?_ ?_))))))
    · show (to == 0) = false
      simp; omega
    · exact hto.2
    · show inb to 5 = true
      simp [inb]; omega
    · have ew : node_Work (⟨f.m.Dim, f.m.Layers⟩ : ApiModel) (⟨f.p.Epoch, f.p.Holders⟩ : PlaceMap) to (at0 f.ledgers to) (msgF m ts0 (.ask L p to e)) = some (l', msgF m ts0 x, true) := by
        have : (⟨f.m.Dim, f.m.Layers⟩ : ApiModel) = m := h.fm
        rw [this]; exact w1
      refine bd_s ew (cb_t ?_ (cb_t rfl ?_))
      · show inb to 5 = true
        simp [inb]; omega
      · refine bd_s (send_eq _ (msg_ok C w2) (by show ((pre ++ post).map (str m ts0)).length ≤ 200; simp at hl2 ⊢; omega)) ?_
        have es : sendB ((pre ++ post).map (str m ts0)) (putS (msgF m ts0 x)) = (pre ++ post ++ [x]).map (str m ts0) := by
          unfold sendB
          rw [if_pos (by simpa using hl2)]
          simp [str]
        show some (({ f with ledgers := f.ledgers.set to.toNat l', bag := sendB ((pre ++ post).map (str m ts0)) (putS (msgF m ts0 x)) } : FleetFleet), (0 : Int)) = _
        rw [es]; rfl
  · rcases List.mem_or_eq_of_mem_set hy with hy | rfl
    · exact h.lok y hy
    · exact w3
  · show at0 (f.ledgers.set to.toNat l') ((0 : Nat) : Int) = []
    rw [at0_set _ _ _ _ (by rw [h.lg]; omega), if_neg (by omega)]
    exact h.l0
  · rcases List.mem_append.1 hy with hy | hy
    · refine h.bok y ?_
      rcases List.mem_append.1 hy with hy | hy
      · exact List.mem_append.2 (.inl hy)
      · exact List.mem_append.2 (.inr (List.mem_cons.2 (.inr hy)))
    · simp only [List.mem_cons, List.not_mem_nil, or_false] at hy
      rw [hy]; exact w2
/-- A fleet without that frame. -/
def less (m : ApiModel) (ts0 : List (List Int)) (f : FleetFleet) (frs : List Fr) : FleetFleet := { f with bag := frs.map (str m ts0) }
theorem less_inv {f : FleetFleet} {A : Nat} {frs frs' : List Fr} (h : WInv m ts0 f A frs) (hs : ∀ x ∈ frs', x ∈ frs) (hl : frs'.length ≤ 200) : WInv m ts0 (less m ts0 f frs') A frs' :=
  ⟨h.fm, h.pl, h.ph, h.lg, h.lok, h.l0, rfl, fun x hx => h.bok x (hs x hx), hl, h.fat, h.an, h.tok, h.prt⟩
theorem deliver_rep (C : Ctx m ts0 d) {f : FleetFleet} {A : Nat} {pre post : List Fr} {L : Nat} {p : ModelPart} {nd e : Int} (h : WInv m ts0 f A (pre ++ .rep L p nd e :: post)) : fleet_Fleet_Deliver f (pre.length : Int) = (fleet_Fleet_answer (less m ts0 f (pre ++ post)) (msgF m ts0 (.rep L p nd e))).bind fun g => some (g, 0) := by
  have hok := h.bok (.rep L p nd e) (by simp)
  unfold fleet_Fleet_Deliver
  rw [h.bg]
  refine bd_s (btake_eq pre post _ h.b200) (cb_f rfl (bd_s (take_eq (msg_ok C hok)) (cb_f rfl (cb_t rfl rfl))))
theorem deliver_out {f : FleetFleet} {A : Nat} {frs : List Fr} (h : WInv m ts0 f A frs) (i : Int) (hi : i < 0 ∨ (f.bag.length : Int) ≤ i) : fleet_Fleet_Deliver f i = some (f, 4) := by
  unfold fleet_Fleet_Deliver
  have hb : f.bag.length ≤ 200 := by rw [h.bg]; simpa using h.b200
  exact bd_s (btake_out f.bag i hi hb) (cb_t rfl rfl)
end
end Go.Sw.FL

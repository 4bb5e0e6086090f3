/- The plain law: every act keeps what is true; the fleet is exactly the model. -/
import Derived.Test.YtahaedoeckgidaaGreatPlM
set_option linter.unusedVariables false
set_option linter.unusedSimpArgs false
namespace Go.Sw.FL
section
variable {m : ApiModel} {ts0 : List (List Int)} {d : Nat}
def wsum (l : List Fr) : Nat := (l.map Fr.w).sum
theorem wsum_app (a b : List Fr) : wsum (a ++ b) = wsum a + wsum b := by simp [wsum]
theorem wsum_cons (x : Fr) (b : List Fr) : wsum (x :: b) = x.w + wsum b := by simp [wsum]
theorem wsum_le : ∀ (l : List Fr), wsum l ≤ 2 * l.length
  | [] => by simp [wsum]
  | x :: l => by have := wsum_le l; rw [wsum_cons]; have : x.w ≤ 2 := by cases x <;> simp [Fr.w]
                 simp; omega
def phi (m : ApiModel) (A : Nat) (frs : List Fr) : Nat := wsum frs + 64 * (m.Layers.length - A)
theorem news_len (C : Ctx m ts0 d) (f : FleetFleet) (A : Nat) : (news m ts0 f A).length ≤ 32 := by unfold news; rw [List.length_map]; exact PM_len C A
theorem phi_adv (C : Ctx m ts0 d) (f : FleetFleet) {A : Nat} (frs : List Fr) (alt : A < m.Layers.length) : phi m (A + 1) (advF m ts0 f A frs) ≤ phi m A frs := by
  have h1 := news_len C f (A + 1)
  unfold phi advF
  split
  · have h2 := wsum_le ((news m ts0 f (A + 1)).take (200 - frs.length))
    rw [List.length_take] at h2
    rw [wsum_app]; omega
  · omega
theorem deliver_inv (C : Ctx m ts0 d) {f : FleetFleet} {A : Nat} {frs : List Fr} (h : Inv m ts0 f A frs) (i : Int) :
    ((i < 0 ∨ (f.bag.length : Int) ≤ i) ∧ fleet_Fleet_Deliver f i = some (f, 4)) ∨ ∃ f' A' frs', fleet_Fleet_Deliver f i = some (f', 0) ∧ Inv m ts0 f' A' frs' ∧ phi m A' frs' < phi m A frs := by
  by_cases hi : i < 0 ∨ (f.bag.length : Int) ≤ i
  · exact .inl ⟨hi, deliver_out h.1 i hi⟩
  refine .inr ?_
  have h200 := h.1.b200
  have hbl : f.bag.length = frs.length := by rw [h.1.bg]; simp
  obtain ⟨k, rfl⟩ := Int.eq_ofNat_of_zero_le (a := i) (by omega)
  have hk : k < frs.length := by omega
  obtain ⟨pre, x, post, rfl, rfl⟩ : ∃ pre x post, frs = pre ++ x :: post ∧ k = pre.length :=
    ⟨frs.take k, frs[k], frs.drop (k + 1), by rw [← List.drop_eq_getElem_cons hk, List.take_append_drop], by simp; omega⟩
  have hsub : ∀ y ∈ pre ++ post, y ∈ pre ++ x :: post := fun y hy => mem_less hy
  have hlp : (pre ++ post).length ≤ 200 := by simp at h200 ⊢; omega
  have hph : phi m A (pre ++ x :: post) = wsum (pre ++ post) + x.w + 64 * (m.Layers.length - A) := by
    unfold phi; rw [wsum_app, wsum_app, wsum_cons]; omega
  cases x with
  | ask L p to e =>
    obtain ⟨l', x', e1, e2, e3, _⟩ := deliver_ask C h.1
    refine ⟨_, A, _, e1, ⟨e2, h.2⟩, ?_⟩
    rw [hph]
    unfold phi
    rw [wsum_app (pre ++ post)]
    have : wsum [x'] = 1 := by rw [wsum_cons, e3]; rfl
    rw [this]; simp only [Fr.w]; omega
  | sta L p nd e =>
    refine ⟨_, A, pre ++ post, deliver_sta C h.1, ⟨less_inv h.1 hsub hlp, h.2⟩, ?_⟩
    rw [hph]; unfold phi; simp only [Fr.w]; omega
  | rep L p nd e =>
    have hok := h.1.bok (.rep L p nd e) (by simp)
    have hL := less_inv h.1 hsub hlp
    have hphi : phi m A (pre ++ post) < phi m A (pre ++ .rep L p nd e :: post) := by rw [hph]; unfold phi; simp only [Fr.w]; omega
    rw [deliver_rep C h.1]
    rcases answer_rep C hL nd e hok.1 hok.2.1 with ⟨e1, _⟩ | ⟨rfl, j, j1, j2, j3, e1⟩
    · exact ⟨_, A, pre ++ post, bd_s e1 rfl, ⟨hL, h.2⟩, hphi⟩
    · have hw := put1_inv hL hok.1 j1
      rw [j2] at hw
      obtain ⟨f', A', frs', c1, c2, c3⟩ := come_eq C (fun _ A frs => phi m A frs ≤ phi m L (pre ++ post)) (fun f A frs _ alt _ hj => Nat.le_trans (phi_adv C f frs alt) hj) hw (Nat.le_refl _)
      exact ⟨f', A', frs', bd_s (e1.trans c1) rfl, c2, Nat.lt_of_le_of_lt c3 hphi⟩
theorem asks_of {f : FleetFleet} {A : Nat} {frs : List Fr} (h : WInv m ts0 f A frs) (alt : A < m.Layers.length) : Asks m ts0 f A :=
  ⟨h.fm, h.pl, h.ph, h.fat, alt, h.tok, (h.prt alt).1, (h.prt alt).2.2.1⟩
theorem ask_out {f : FleetFleet} {A : Nat} {frs : List Fr} (h : WInv m ts0 f A frs) (alt : ¬ A < m.Layers.length) : fleet_Fleet_Ask f = some f := by
  unfold fleet_Fleet_Ask
  exact bif_t (by rw [h.fm, h.fat]; omega) rfl
def askFrs (m : ApiModel) (ts0 : List (List Int)) (f : FleetFleet) (A : Nat) (frs : List Fr) : List Fr := frs ++ (asksL f A (PM m ts0 A) 0).take (200 - frs.length)
theorem ask_winv (C : Ctx m ts0 d) {f : FleetFleet} {A : Nat} {frs : List Fr} (h : WInv m ts0 f A frs) (alt : A < m.Layers.length) : fleet_Fleet_Ask f = some (less m ts0 f (askFrs m ts0 f A frs)) ∧ WInv m ts0 (less m ts0 f (askFrs m ts0 f A frs)) A (askFrs m ts0 f A frs) := by
  have hb := h.b200
  refine ⟨ask_eq C (asks_of h alt) h.bg hb, ⟨h.fm, h.pl, h.ph, h.lg, h.lok, h.l0, rfl, fun x hx => ?_, by unfold askFrs; simp; omega, h.fat, h.an, h.tok, h.prt⟩⟩
  rcases List.mem_append.1 hx with hx | hx
  · exact h.bok x hx
  · obtain ⟨p, hp, rfl⟩ := asks_mem _ _ _ (List.mem_of_mem_take hx)
    exact ((asks_of h alt).fr C hp).1
theorem ask_inv (C : Ctx m ts0 d) {f : FleetFleet} {A : Nat} {frs : List Fr} (h : Inv m ts0 f A frs) : ∃ f' frs', fleet_Fleet_Ask f = some f' ∧ Inv m ts0 f' A frs' := by
  by_cases alt : A < m.Layers.length
  · obtain ⟨e1, e2⟩ := ask_winv C h.1 alt
    exact ⟨_, _, e1, e2, h.2⟩
  · exact ⟨f, frs, ask_out h.1 alt, h⟩
theorem drop_inv {f : FleetFleet} {A : Nat} {frs : List Fr} (h : Inv m ts0 f A frs) (i : Int) : ∃ f' e frs', fleet_Fleet_Drop f i = some (f', e) ∧ Inv m ts0 f' A frs' := by
  have h200 := h.1.b200
  have hbl : f.bag.length = frs.length := by rw [h.1.bg]; simp
  unfold fleet_Fleet_Drop
  by_cases hi : i < 0 ∨ (f.bag.length : Int) ≤ i
  · exact ⟨f, 4, frs, bd_s (btake_out f.bag i hi (by omega)) (cb_t rfl rfl), h⟩
  obtain ⟨k, rfl⟩ := Int.eq_ofNat_of_zero_le (a := i) (by omega)
  have hk : k < frs.length := by omega
  obtain ⟨pre, x, post, rfl, rfl⟩ : ∃ pre x post, frs = pre ++ x :: post ∧ k = pre.length :=
    ⟨frs.take k, frs[k], frs.drop (k + 1), by rw [← List.drop_eq_getElem_cons hk, List.take_append_drop], by simp; omega⟩
  have hlp : (pre ++ post).length ≤ 200 := by simp at h200 ⊢; omega
  refine ⟨less m ts0 f (pre ++ post), 0, pre ++ post, ?_, less_inv h.1 (fun y hy => mem_less hy) hlp, h.2⟩
  rw [h.1.bg]
  exact bd_s (btake_eq pre post x h200) (cb_f rfl rfl)
theorem twice_inv {f : FleetFleet} {A : Nat} {frs : List Fr} (h : Inv m ts0 f A frs) (i : Int) : ∃ f' e frs', fleet_Fleet_Twice f i = some (f', e) ∧ Inv m ts0 f' A frs' := by
  have h200 := h.1.b200
  have hbl : f.bag.length = frs.length := by rw [h.1.bg]; simp
  unfold fleet_Fleet_Twice
  by_cases hi : i < 0 ∨ (f.bag.length : Int) ≤ i
  · exact ⟨f, 4, frs, cb_t (by simpa using hi) rfl, h⟩
  obtain ⟨k, rfl⟩ := Int.eq_ofNat_of_zero_le (a := i) (by omega)
  have hk : k < frs.length := by omega
  have hx : at0 f.bag (k : Int) = str m ts0 frs[k] := by rw [at0_nat (by omega)]; simp [h.1.bg]
  have hg : (decide ((k : Int) < 0) || decide ((f.bag.length : Int) ≤ (k : Int))) = false := by simp; omega
  have hs : sendB f.bag (str m ts0 frs[k]) = (frs ++ [frs[k]].take (200 - frs.length)).map (str m ts0) := by
    have := sendL_eq (m := m) (ts0 := ts0) [frs[k]] frs h200
    rw [← h.1.bg] at this
    exact this
  refine ⟨less m ts0 f (frs ++ [frs[k]].take (200 - frs.length)), 0, frs ++ [frs[k]].take (200 - frs.length), ?_, less_inv h.1 (fun y hy => ?_) (by simp; omega), h.2⟩
  · refine cb_f hg (bd_s (x := sendB f.bag (str m ts0 frs[k])) ?_ ?_)
    · unfold bag_Twice
      refine cb_f hg (cb_t (inb_nat (by omega)) (bd_s ?_ rfl))
      rw [hx]; exact bput_eq _ _ (by omega)
    · rw [hs]; rfl
  · rcases List.mem_append.1 hy with hy | hy
    · exact hy
    · have := List.mem_of_mem_take hy
      simp only [List.mem_cons, List.not_mem_nil, or_false] at this
      rw [this]; exact List.getElem_mem hk
theorem map_inv {f : FleetFleet} {A : Nat} {frs : List Fr} (h : Inv m ts0 f A frs) {q : PlaceMap} (hq : plP q) (hl : q.Holders.length = f.p.Holders.length) : Inv m ts0 { f with p := q } A frs :=
  ⟨⟨h.1.fm, hq, fun l hm => by show l.Experts.length ≤ q.Holders.length; rw [hl]; exact h.1.ph l hm, h.1.lg, h.1.lok, h.1.l0, h.1.bg, h.1.bok, h.1.b200, h.1.fat, h.1.an, h.1.tok, h.1.prt⟩, h.2⟩
theorem add_inv {f : FleetFleet} {A : Nat} {frs : List Fr} (h : Inv m ts0 f A frs) (x n : Int) : ∃ f' e frs', fleet_Fleet_Add f x n = some (f', e) ∧ Inv m ts0 f' A frs' := by
  obtain ⟨q, e, e1, e2, e3⟩ := add_pl h.1.pl x n
  exact ⟨_, e, frs, bd_s e1 rfl, map_inv h e2 e3⟩
theorem retire_inv {f : FleetFleet} {A : Nat} {frs : List Fr} (h : Inv m ts0 f A frs) (x n : Int) : ∃ f' e frs', fleet_Fleet_Retire f x n = some (f', e) ∧ Inv m ts0 f' A frs' := by
  obtain ⟨q, e, e1, e2, e3⟩ := retire_pl h.1.pl x n
  exact ⟨_, e, frs, bd_s e1 rfl, map_inv h e2 e3⟩
theorem bag_eq {f : FleetFleet} {A : Nat} {frs : List Fr} (h : WInv m ts0 f A frs) : fleet_Fleet_Bag f = some (f, f.bag) ∧ f.bag.length ≤ 200 := by
  have hb : f.bag.length ≤ 200 := by rw [h.bg]; simpa using h.b200
  exact ⟨by unfold fleet_Fleet_Bag slices_Clone_string; exact bd_s (clone_eq (by omega)) rfl, hb⟩
def act (f : FleetFleet) (k i x n : Int) : Option FleetFleet := (bif k == 0 then (fleet_Fleet_Ask f) else (bif k == 1 then ((fleet_Fleet_Deliver f i).bind fun t => some t.1) else (bif k == 2 then ((fleet_Fleet_Drop f i).bind fun t => some t.1) else (bif k == 3 then ((fleet_Fleet_Twice f i).bind fun t => some t.1) else (bif k == 4 then ((fleet_Fleet_Add f x n).bind fun t => some t.1) else (bif k == 5 then ((fleet_Fleet_Retire f x n).bind fun t => some t.1) else some f))))))
theorem act_inv (C : Ctx m ts0 d) {f : FleetFleet} {A : Nat} {frs : List Fr} (h : Inv m ts0 f A frs) (k i x n : Int) : ∃ f' A' frs', act f k i x n = some f' ∧ Inv m ts0 f' A' frs' := by
  unfold act
  cases k == 0 with
  | true => obtain ⟨f', frs', e1, e2⟩ := ask_inv C h; exact ⟨f', A, frs', e1, e2⟩
  | false =>
  cases k == 1 with
  | true =>
    rcases deliver_inv C h i with ⟨_, e1⟩ | ⟨f', A', frs', e1, e2, _⟩
    · exact ⟨f, A, frs, bd_s e1 rfl, h⟩
    · exact ⟨f', A', frs', bd_s e1 rfl, e2⟩
  | false =>
  cases k == 2 with
  | true => obtain ⟨f', e, frs', e1, e2⟩ := drop_inv h i; exact ⟨f', A, frs', bd_s e1 rfl, e2⟩
  | false =>
  cases k == 3 with
  | true => obtain ⟨f', e, frs', e1, e2⟩ := twice_inv h i; exact ⟨f', A, frs', bd_s e1 rfl, e2⟩
  | false =>
  cases k == 4 with
  | true => obtain ⟨f', e, frs', e1, e2⟩ := add_inv h x n; exact ⟨f', A, frs', bd_s e1 rfl, e2⟩
  | false =>
  cases k == 5 with
  | true => obtain ⟨f', e, frs', e1, e2⟩ := retire_inv h x n; exact ⟨f', A, frs', bd_s e1 rfl, e2⟩
  | false => exact ⟨f, A, frs, rfl, h⟩
theorem ob {α : Type} (a : Option α) : (a.bind fun t => some t) = a := by cases a <;> rfl
theorem do_inv (C : Ctx m ts0 d) {f : FleetFleet} {A : Nat} {frs : List Fr} (h : Inv m ts0 f A frs) (a : Switchboardlaw19Act) : ∃ f' A' frs', switchboardlaw19_do f a = some f' ∧ Inv m ts0 f' A' frs' := by
  obtain ⟨b1, b2⟩ := bag_eq h.1
  by_cases hb : 0 < f.bag.length
  · obtain ⟨f', A', frs', e1, e2⟩ := act_inv C h (Int.tmod a.Kind 6) (Int.tmod (i64w a.N) (f.bag.length : Int)) (i64w (Int.tmod a.N 8)) (i64w (Int.tmod a.M 5))
    refine ⟨f', A', frs', ?_, e2⟩
    unfold switchboardlaw19_do
    refine bd_s b1 (bif_t (by show (0 : Int) < (f.bag.length : Int); omega) (cb_t (by show ((f.bag.length : Int) != 0) = true; simp; intro e; rw [e] at hb; simp at hb) ?_))
    simp only [ob]
    exact e1
  · obtain ⟨f', A', frs', e1, e2⟩ := act_inv C h (Int.tmod a.Kind 6) 0 (i64w (Int.tmod a.N 8)) (i64w (Int.tmod a.M 5))
    refine ⟨f', A', frs', ?_, e2⟩
    unfold switchboardlaw19_do
    refine bd_s b1 (bif_f (by show ¬ (0 : Int) < (f.bag.length : Int); omega) ?_)
    simp only [ob]
    exact e1
/-! ### a batch goes out -/
theorem ctx_of {m : ApiModel} {p : PlaceMap} {ts : List (List Int)} (h : mayB m p ts = true) : Ctx m ts m.Dim.toNat ∧ plP p ∧ (∀ l ∈ m.Layers, l.Experts.length ≤ p.Holders.length) ∧ tokB m ts = true ∧ plB p = true ∧ fitB m p = true := by
  simp only [mayB, Bool.and_eq_true] at h
  obtain ⟨h1, h2, h3, h4⟩ := h
  have h1' := h1
  have h2' := h2
  simp only [modB, Bool.and_eq_true, decide_eq_true_eq, List.all_eq_true] at h1'
  obtain ⟨⟨⟨⟨a1, a2⟩, a3⟩, a4⟩, a5⟩ := h1'
  have hd : m.Dim = (m.Dim.toNat : Int) := by omega
  simp only [tokB, Bool.and_eq_true, decide_eq_true_eq, List.all_eq_true, rowB, beq_iff_eq] at h2'
  obtain ⟨⟨b1, b2⟩, b3⟩ := h2'
  refine ⟨⟨hd, by omega, fun l hl => by rw [← hd]; exact a5 l hl, by omega, by omega, fun v hv => by have := (b3 v hv).1; omega, by omega, by omega, fun v hv n hn => okB_iff.1 ((b3 v hv).2 n hn), h1⟩, (plB_iff p).1 h3, fun l hl => ?_, h2, h3, h4⟩
  have h4' := h4
  simp only [fitB, List.all_eq_true, decide_eq_true_eq] at h4'
  have := h4' l hl; omega
def g0 (m : ApiModel) (p : PlaceMap) (ts : List (List Int)) : FleetFleet := ⟨m, p, List.replicate 5 [], [], ts, 0, [], [], []⟩
def f1 (m : ApiModel) (p : PlaceMap) (ts : List (List Int)) : FleetFleet := { begF m ts (g0 m p ts) 0 with bag := (news m ts (g0 m p ts) 0).map (str m ts) }
theorem new_eq {m : ApiModel} {p : PlaceMap} {ts : List (List Int)} (h : mayB m p ts = true) (J : FleetFleet → Nat → List Fr → Prop) (hJ : ∀ f A frs, WInv m ts f A frs → A < m.Layers.length → allAns m ts f A → J f A frs → J (adv m ts f A frs) (A + 1) (advF m ts f A frs))
    (h0 : J (f1 m p ts) 0 (news m ts (g0 m p ts) 0)) : ∃ f A frs, fleet_New m p ts = some (some f, 0) ∧ Inv m ts f A frs ∧ J f A frs := by
  obtain ⟨C, h1, h2, h3, h4, h5⟩ := ctx_of h
  have hn := C.n1
  have hnl := news_len C (g0 m p ts) 0
  have hb := begin_eq C (f := g0 m p ts) (A := 0) (b := []) rfl h1 h2 rfl hn rfl rfl (by simp)
  have e1 : ([] ++ (news m ts (g0 m p ts) 0).take (200 - ([] : List Fr).length)) = news m ts (g0 m p ts) 0 := by rw [List.nil_append, List.take_of_length_le (by simp; omega)]
  rw [e1] at hb
  have hw : WInv m ts (f1 m p ts) 0 (news m ts (g0 m p ts) 0) := by
    refine ⟨rfl, h1, h2, rfl, fun l hl => ?_, rfl, rfl, fun x hx => (news_ok C (f := g0 m p ts) h1 h2 hn x hx).1, by omega, rfl, by omega, rfl, fun _ => ⟨rfl, by simp [f1, begF], by simp [f1, begF], fun i hi ht => ?_⟩⟩
    · have : l ∈ List.replicate 5 ([] : List LedgerEntry) := hl
      have := (List.mem_replicate.1 this).2
      subst this
      exact ⟨fun x hx => absurd hx (by simp), List.Pairwise.nil⟩
    · have := rep_false (PM m ts 0).length i
      have e : at0 (List.replicate (PM m ts 0).length false) (i : Int) = true := ht
      rw [this] at e; cases e
  obtain ⟨f, A, frs, c1, c2, c3⟩ := come_eq C J hJ hw h0
  refine ⟨f, A, frs, ?_, c2, c3⟩
  unfold fleet_New
  refine bd_s ((modR_eq m).trans (by rw [C.mb])) (cb_f rfl (bd_s ((tokR_eq m ts).trans (by rw [h3])) (cb_f rfl (bd_s ((plR_eq p).trans (by rw [h4])) (cb_f rfl (bd_s ((cf6 p m.Layers).trans (by rw [any_fit, h5]; rfl)) (cb_f rfl (bd_s (clone_eq (by have := C.t16; omega)) ?_))))))))
  refine bd_s hb ?_
  show ((fleet_Fleet_come (f1 m p ts)).bind _) = _
  exact bd_s c1 rfl
/-! ### the tokens, in the end -/
theorem done_eq (C : Ctx m ts0 d) {f : FleetFleet} {A : Nat} {frs : List Fr} (h : WInv m ts0 f A frs) : (A < m.Layers.length ∧ fleet_Fleet_Done f = some (f, [], false)) ∨ (A = m.Layers.length ∧ fleet_Fleet_Done f = some (f, fwd m.Layers ts0, true)) := by
  unfold fleet_Fleet_Done
  by_cases alt : A < m.Layers.length
  · exact .inl ⟨alt, bif_t (by rw [h.fat, h.fm]; omega) rfl⟩
  · have ha : A = m.Layers.length := by have := h.an; omega
    refine .inr ⟨ha, bif_f (by rw [h.fat, h.fm]; omega) (bd_s (clone_eq (by rw [h.tok, tk_len]; have := C.t16; omega)) ?_)⟩
    rw [h.tok, ha, tk_all]
theorem fwd_same (C : Ctx m ts0 d) : switchboardref15_Same (fwd m.Layers ts0) (fwd m.Layers ts0) = some true :=
  same_eq (by rw [fwd_len]; have := C.t16; omega) (fun l hl => by have := fwd_rect C.d8 m.Layers ts0 C.lay C.rc C.t16 l hl; have := C.d8; omega)
theorem true_l1 (C : Ctx m ts0 d) (acts : List Switchboardlaw19Act) : ∀ (fuel k : Nat) (f : FleetFleet) (A : Nat) (frs : List Fr), Inv m ts0 f A frs → k ≤ 200 → 200 - k < fuel → ∃ z, switchboardlaw19_FleetTrue_l1 acts (fwd m.Layers ts0) fuel f (k : Int) = some (.out z)
  | 0, k, f, A, frs, _, _, hf => by omega
  | fuel + 1, k, f, A, frs, h, hk, hf => by
    rw [switchboardlaw19_FleetTrue_l1]
    by_cases hc : k < acts.length ∧ k < 200
    · obtain ⟨f', A', frs', e1, e2⟩ := do_inv C h (at0 acts (k : Int))
      obtain ⟨b1, b2⟩ := bag_eq e2.1
      obtain ⟨z, hz⟩ := true_l1 C acts fuel (k + 1) f' A' frs' e2 (by omega) (by omega)
      have hw := i64s k (by omega)
      have hbf : ¬ (200 : Int) < (f'.bag.length : Int) := by omega
      refine ⟨z, cb_t (by simp; omega) (cb_t (inb_nat hc.1) (bd_s e1 ?_))⟩
      rcases done_eq C e2.1 with ⟨_, d1⟩ | ⟨_, d1⟩
      · refine bd_s d1 (cb_f rfl (cb_f rfl (bd_s b1 (bif_f hbf ?_))))
        rw [hw]; exact hz
      · refine bd_s d1 (cb_t rfl (bd_s (fwd_same C) (cb_f rfl (cb_f rfl (bd_s b1 (bif_f hbf ?_))))))
        rw [hw]; exact hz
    · exact ⟨(f, (k : Int)), cb_f (by simp; omega) rfl⟩
end
theorem awake_eq : switchboardlaw19_awake = some true := by kernel_rfl
/-- THE STAGE'S THEOREM. -/
theorem fleetTrue_eq (m : ApiModel) (p : PlaceMap) (ts : List (List Int)) (acts : List Switchboardlaw19Act) : switchboardlaw19_FleetTrue m p ts acts = some true := by
  have aw : (switchboardlaw19_awake.bind fun t => some t) = some true := by rw [awake_eq]; rfl
  unfold switchboardlaw19_FleetTrue
  refine bd_s (s15_eq m) ?_
  cases h1 : s15 m with
  | false => exact cb_t rfl aw
  | true =>
  refine cb_f rfl (bd_s (s03_eq p.Holders) ?_)
  cases h2 : s03 p.Holders with
  | false => exact cb_t rfl aw
  | true =>
  refine cb_f rfl (bd_s (s03_eq ts) ?_)
  cases h3 : s03 ts with
  | false => exact cb_t rfl aw
  | true =>
  refine cb_f rfl (bd_s (may_eq h1 h2 h3) ?_)
  cases h4 : mayB m p ts with
  | false => exact cb_t rfl aw
  | true =>
  have C := (ctx_of h4).1
  obtain ⟨f, A, frs, e1, e2, _⟩ := new_eq h4 (fun _ _ _ => True) (fun _ _ _ _ _ _ _ => trivial) trivial
  obtain ⟨z, hz⟩ := true_l1 C acts FUEL 0 f A frs e2 (by omega) (by unfold FUEL; omega)
  refine cb_f rfl (bd_s e1 ?_)
  refine cb_f rfl (bd_s (rfwd_eq C.d8 C.lay C.rc C.t16) (bd_s hz ?_))
  exact aw
end Go.Sw.FL

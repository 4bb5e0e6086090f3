/- The plain law: every act keeps what is true; the fleet is exactly the model. -/
import Derived.Test.YtahaedoeckgidaaGreatPlM
set_option linter.unusedVariables false
set_option linter.unusedSimpArgs false
namespace Go.Sw.FL
section
variable {m : ApiModel} {ts0 : List (List Int)} {d : Nat}
def wsum (l : List Fr) : Nat := (l.map Fr.w).sum
theorem wsum_app (a b : List Fr) : wsum (a ++ b) = wsum a + wsum b := by simp [wsum]
theorem wsum_cons (x : Fr) (b : List Fr) : wsum (x :: b) = x.w + wsum b := by simp [wsum]
theorem wsum_le : ∀ (l : List Fr), wsum l ≤ 2 * l.length
  | [] => by simp [wsum]
  | x :: l => by have := wsum_le l; rw [wsum_cons]; have : x.w ≤ 2 := by cases x <;> simp [Fr.w]
                 simp; omega
def phi (m : ApiModel) (A : Nat) (frs : List Fr) : Nat := wsum frs + 64 * (m.Layers.length - A)
theorem news_len (C : Ctx m ts0 d) (f : FleetFleet) (A : Nat) : (news m ts0 f A).length ≤ 32 := by unfold news; rw [List.length_map]; exact PM_len C A
theorem phi_adv (C : Ctx m ts0 d) (f : FleetFleet) {A : Nat} (frs : List Fr) (alt : A < m.Layers.length) : phi m (A + 1) (advF m ts0 f A frs) ≤ phi m A frs := by
  have h1 := news_len C f (A + 1)
  unfold phi advF
  split
  · have h2 := wsum_le ((news m ts0 f (A + 1)).take (200 - frs.length))
    rw [List.length_take] at h2
    rw [wsum_app]; omega
  · omega
/-! ### a batch goes out -/
theorem ctx_of {m : ApiModel} {p : PlaceMap} {ts : List (List Int)} (h : mayB m p ts = true) : Ctx m ts m.Dim.toNat ∧ plP p ∧ (∀ l ∈ m.Layers, l.Experts.length ≤ p.Holders.length) ∧ tokB m ts = true ∧ plB p = true ∧ fitB m p = true := by
  simp only [mayB, Bool.and_eq_true] at h
  obtain ⟨h1, h2, h3, h4⟩ := h
  have h1' := h1
  have h2' := h2
  simp only [modB, Bool.and_eq_true, decide_eq_true_eq, List.all_eq_true] at h1'
  obtain ⟨⟨⟨⟨a1, a2⟩, a3⟩, a4⟩, a5⟩ := h1'
  have hd : m.Dim = (m.Dim.toNat : Int) := by omega
  simp only [tokB, Bool.and_eq_true, decide_eq_true_eq, List.all_eq_true, rowB, beq_iff_eq] at h2'
  obtain ⟨⟨b1, b2⟩, b3⟩ := h2'
  refine ⟨⟨hd, by omega, fun l hl => by rw [← hd]; exact a5 l hl, by omega, by omega, fun v hv => by have := (b3 v hv).1; omega, by omega, by omega, fun v hv n hn => okB_iff.1 ((b3 v hv).2 n hn), h1⟩, (plB_iff p).1 h3, fun l hl => ?_, h2, h3, h4⟩
  have h4' := h4
  simp only [fitB, List.all_eq_true, decide_eq_true_eq] at h4'
  have := h4' l hl; omega
def g0 (m : ApiModel) (p : PlaceMap) (ts : List (List Int)) : FleetFleet := ⟨m, p, List.replicate 5 [], [], ts, 0, [], [], []⟩
def f1 (m : ApiModel) (p : PlaceMap) (ts : List (List Int)) : FleetFleet := { begF m ts (g0 m p ts) 0 with bag := (news m ts (g0 m p ts) 0).map (str m ts) }
theorem new_eq {m : ApiModel} {p : PlaceMap} {ts : List (List Int)} (h : mayB m p ts = true) (J : FleetFleet → Nat → List Fr → Prop) (hJ : ∀ f A frs, WInv m ts f A frs → A < m.Layers.length → allAns m ts f A → J f A frs → J (adv m ts f A frs) (A + 1) (advF m ts f A frs))
    (h0 : J (f1 m p ts) 0 (news m ts (g0 m p ts) 0)) : ∃ f A frs, fleet_New m p ts = some (some f, 0) ∧ Inv m ts f A frs ∧ J f A frs := by
  obtain ⟨C, h1, h2, h3, h4, h5⟩ := ctx_of h
  have hn := C.n1
  have hnl := news_len C (g0 m p ts) 0
  have hb := begin_eq C (f := g0 m p ts) (A := 0) (b := []) rfl h1 h2 rfl hn rfl rfl (by simp)
  have e1 : ([] ++ (news m ts (g0 m p ts) 0).take (200 - ([] : List Fr).length)) = news m ts (g0 m p ts) 0 := by rw [List.nil_append, List.take_of_length_le (by simp; omega)]
  rw [e1] at hb
  have hw : WInv m ts (f1 m p ts) 0 (news m ts (g0 m p ts) 0) := by
    refine ⟨rfl, h1, h2, rfl, fun l hl => ?_, rfl, rfl, fun x hx => (news_ok C (f := g0 m p ts) h1 h2 hn x hx).1, by omega, rfl, by omega, rfl, fun _ => ⟨rfl, by simp [f1, begF], by simp [f1, begF], fun i hi ht => ?_⟩⟩
    · have : l ∈ List.replicate 5 ([] : List LedgerEntry) := hl
      have := (List.mem_replicate.1 this).2
      subst this
      exact ⟨fun x hx => absurd hx (by simp), List.Pairwise.nil⟩
    · have := rep_false (PM m ts 0).length i
      have e : at0 (List.replicate (PM m ts 0).length false) (i : Int) = true := ht
      rw [this] at e; cases e
  obtain ⟨f, A, frs, c1, c2, c3⟩ := come_eq C J hJ hw h0
  refine ⟨f, A, frs, ?_, c2, c3⟩
  unfold fleet_New
  refine bd_s ((modR_eq m).trans (by rw [C.mb])) (cb_f rfl (bd_s ((tokR_eq m ts).trans (by rw [h3])) (cb_f rfl (bd_s ((plR_eq p).trans (by rw [h4])) (cb_f rfl (bd_s ((cf6 p m.Layers).trans (by rw [any_fit, h5]; rfl)) (cb_f rfl (bd_s (clone_eq (by have := C.t16; omega)) ?_))))))))
  refine bd_s hb ?_
  show ((fleet_Fleet_come (f1 m p ts)).bind _) = _
  exact bd_s c1 rfl
/-! ### the tokens, in the end -/
theorem done_eq (C : Ctx m ts0 d) {f : FleetFleet} {A : Nat} {frs : List Fr} (h : WInv m ts0 f A frs) : (A < m.Layers.length ∧ fleet_Fleet_Done f = some (f, [], false)) ∨ (A = m.Layers.length ∧ fleet_Fleet_Done f = some (f, fwd m.Layers ts0, true)) := by
  unfold fleet_Fleet_Done
  by_cases alt : A < m.Layers.length
  · exact .inl ⟨alt, bif_t (by rw [h.fat, h.fm]; omega) rfl⟩
  · have ha : A = m.Layers.length := by have := h.an; omega
    refine .inr ⟨ha, bif_f (by rw [h.fat, h.fm]; omega) (bd_s (clone_eq (by rw [h.tok, tk_len]; have := C.t16; omega)) ?_)⟩
    rw [h.tok, ha, tk_all]
theorem fwd_same (C : Ctx m ts0 d) : switchboardref15_Same (fwd m.Layers ts0) (fwd m.Layers ts0) = some true :=
  same_eq (by rw [fwd_len]; have := C.t16; omega) (fun l hl => by have := fwd_rect C.d8 m.Layers ts0 C.lay C.rc C.t16 l hl; have := C.d8; omega)
end
theorem awake_eq : switchboardlaw19_awake = some true := by kernel_rfl
end Go.Sw.FL

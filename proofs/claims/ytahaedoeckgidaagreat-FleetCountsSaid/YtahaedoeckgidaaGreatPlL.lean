/- The plain law: a layer begins; it comes on; an answer is taken. -/
import Derived.Test.YtahaedoeckgidaaGreatPlK
set_option linter.unusedVariables false
set_option linter.unusedSimpArgs false
namespace Go.Sw.FL
theorem bd_n {α β : Type} {a : Option α} {f : α → Option β} (h : a = none) : a.bind f = none := by rw [h]; rfl
section
variable {m : ApiModel} {ts0 : List (List Int)} {d : Nat}
def news (m : ApiModel) (ts0 : List (List Int)) (f : FleetFleet) (A : Nat) : List Fr := (PM m ts0 A).map (askFr f A)
def begF (m : ApiModel) (ts0 : List (List Int)) (f : FleetFleet) (A : Nat) : FleetFleet := { f with parts := PM m ts0 A, answers := List.replicate (PM m ts0 A).length [], answered := List.replicate (PM m ts0 A).length false }
theorem asks_all {f : FleetFleet} {A : Nat} (hf : ∀ j : Nat, at0 f.answered (j : Int) = false) : ∀ (ps : List ModelPart) (i : Nat), asksL f A ps i = ps.map (askFr f A)
 | [], i => rfl
 | p :: ps, i => by rw [asksL, hf i, if_neg (by simp), asks_all hf ps]; rfl
theorem rep_false (k : Nat) (j : Nat) : at0 (List.replicate k false) (j : Int) = false := by
 unfold at0
 simp [List.getElem?_replicate]
 split <;> rfl
theorem begin_eq (C : Ctx m ts0 d) {f : FleetFleet} {A : Nat} {b : List Fr} (fm : f.m = m) (pl : plP f.p) (ph : ∀ l ∈ m.Layers, l.Experts.length ≤ f.p.Holders.length) (fat : f.at_ = (A : Int)) (alt : A < m.Layers.length) (tok : f.tokens = tk m ts0 A) (hb : f.bag = b.map (str m ts0)) (hl : b.length ≤ 200) :
  fleet_Fleet_begin f = some { begF m ts0 f A with bag := (b ++ (news m ts0 f A).take (200 - b.length)).map (str m ts0) } := by
 have hP := PM_len C A
 have hpe : model_Parts (⟨(at0 f.m.Layers f.at_).Gate, (at0 f.m.Layers f.at_).Experts, (at0 f.m.Layers f.at_).Capacity⟩ : ApiLayer) f.tokens = some (PM m ts0 A) := by
  rw [fm, fat, tok]; exact parts_eq (C.lt alt)
 have hk : mkOk ((PM m ts0 A).length : Int) = true := by simp [mkOk]; omega
 have hA : Asks m ts0 (begF m ts0 f A) A := ⟨fm, pl, ph, fat, alt, tok, rfl, by simp [begF]⟩
 have hq := ask_eq C hA (b := b) hb hl
 have hn : asksL (begF m ts0 f A) A (PM m ts0 A) 0 = news m ts0 f A := asks_all (fun j => rep_false _ j) _ 0
 rw [hn] at hq
 unfold fleet_Fleet_begin
 refine bif_f (by rw [fm, fat]; omega) (cb_t (by rw [fm, fat]; exact inb_nat alt) (bd_s hpe (cb_t hk (cb_t hk ?_))))
 have ek : Int.toNat ((PM m ts0 A).length : Int) = (PM m ts0 A).length := by simp
 show (fleet_Fleet_Ask { f with parts := PM m ts0 A, answers := List.replicate (Int.toNat ((PM m ts0 A).length : Int)) [], answered := List.replicate (Int.toNat ((PM m ts0 A).length : Int)) false }).bind _ = _
 rw [ek]
 exact bd_s hq rfl
theorem begin_out {f : FleetFleet} (h : (f.m.Layers.length : Int) ≤ f.at_) : fleet_Fleet_begin f = some f := by
 unfold fleet_Fleet_begin
 exact bif_t h rfl
def allAns (m : ApiModel) (ts0 : List (List Int)) (f : FleetFleet) (A : Nat) : Prop := ∀ i : Nat, i < (PM m ts0 A).length → at0 f.answered (i : Int) = true
theorem cb_l1 (l : List Bool) : ∀ (k i : Nat), i + k = l.length → ((∀ j, i ≤ j → j < l.length → at0 l (j : Int) = true) ∧ slices_Index_bool_ro0_l1 l false k i = some (.out ())) ∨ ((∃ j, i ≤ j ∧ j < l.length ∧ at0 l (j : Int) = false) ∧ ∃ j : Nat, slices_Index_bool_ro0_l1 l false k i = some (.ret (j : Int)))
 | 0, i, h => .inl ⟨fun j h1 h2 => by omega, rfl⟩
 | k + 1, i, h => by
  have hi : i < l.length := by omega
  rw [slices_Index_bool_ro0_l1]
  cases hv : at0 l (i : Int) with
  | false => exact .inr ⟨⟨i, by omega, hi, hv⟩, i, cb_t (inb_nat hi) (cb_t rfl rfl)⟩
  | true =>
   rcases cb_l1 l k (i + 1) (by omega) with ⟨h1, h2⟩ | ⟨⟨j, h1, h2, h3⟩, j', h4⟩
   ·refine .inl ⟨fun j a b => ?_, cb_t (inb_nat hi) (cb_f rfl h2)⟩
    by_cases e : j = i
    ·subst e; exact hv
    ·exact h1 j (by omega) b
   ·exact .inr ⟨⟨j, by omega, h2, h3⟩, j', cb_t (inb_nat hi) (cb_f rfl h4)⟩
theorem contains_eq (l : List Bool) (hl : l.length ≤ 100000) : ((∀ j, j < l.length → at0 l (j : Int) = true) ∧ slices_Contains_bool_ro0 l false = some false) ∨ ((∃ j, j < l.length ∧ at0 l (j : Int) = false) ∧ slices_Contains_bool_ro0 l false = some true) := by
 have e : Int.toNat (l.length : Int) = l.length := by simp
 have hi : limI (l.length : Int) = true := by simp [limI]; omega
 unfold slices_Contains_bool_ro0 slices_Index_bool_ro0
 rw [e]
 rcases cb_l1 l l.length 0 (by omega) with ⟨h1, h2⟩ | ⟨⟨j, h1, h2, h3⟩, j', h4⟩
 ·exact .inl ⟨fun j hj => h1 j (by omega) hj, bd_s (cb_t hi (bd_s h2 rfl)) rfl⟩
 ·refine .inr ⟨⟨j, h2, h3⟩, bd_s (cb_t hi (bd_s h4 rfl)) ?_⟩
  simp
/-- On by a layer. -/
def nxt (m : ApiModel) (ts0 : List (List Int)) (f : FleetFleet) (A : Nat) : FleetFleet := { f with tokens := tk m ts0 (A + 1), at_ := ((A + 1 : Nat) : Int) }
def advF (m : ApiModel) (ts0 : List (List Int)) (f : FleetFleet) (A : Nat) (frs : List Fr) : List Fr := if A + 1 < m.Layers.length then frs ++ (news m ts0 f (A + 1)).take (200 - frs.length) else frs
def adv (m : ApiModel) (ts0 : List (List Int)) (f : FleetFleet) (A : Nat) (frs : List Fr) : FleetFleet := if A + 1 < m.Layers.length then { begF m ts0 (nxt m ts0 f A) (A + 1) with bag := (advF m ts0 f A frs).map (str m ts0) } else nxt m ts0 f A
theorem news_ok (C : Ctx m ts0 d) {f : FleetFleet} {A : Nat} (pl : plP f.p) (ph : ∀ l ∈ m.Layers, l.Experts.length ≤ f.p.Holders.length) (alt : A < m.Layers.length) : ∀ x ∈ news m ts0 f A, okFr m ts0 x ∧ ∃ p ∈ PM m ts0 A, x = askFr f A p ∧ pickTo f.p p.Expert (p.Token + p.Rank) ∈ at0 f.p.Holders p.Expert := fun x hx => by
 obtain ⟨p, hp, rfl⟩ := List.mem_map.1 hx
 have hA : Asks m ts0 ({ begF m ts0 f A with m := m, at_ := (A : Int), tokens := tk m ts0 A } : FleetFleet) A := ⟨rfl, pl, ph, rfl, alt, rfl, rfl, by simp [begF]⟩
 obtain ⟨h1, h2, h3⟩ := hA.fr C hp
 exact ⟨h1, p, hp, rfl, h3⟩
theorem adv_inv (C : Ctx m ts0 d) {f : FleetFleet} {A : Nat} {frs : List Fr} (h : WInv m ts0 f A frs) (alt : A < m.Layers.length) : WInv m ts0 (adv m ts0 f A frs) (A + 1) (advF m ts0 f A frs) := by
 have hb := h.b200
 unfold adv advF
 by_cases hn : A + 1 < m.Layers.length
 ·rw [if_pos hn, if_pos hn]
  refine ⟨h.fm, h.pl, h.ph, h.lg, h.lok, h.l0, by first | rfl | rw [if_pos hn], fun x hx => ?_, by simp; omega, rfl, by omega, rfl, fun _ => ⟨rfl, by simp [begF], by simp [begF], fun i hi ht => ?_⟩⟩
  ·rcases List.mem_append.1 hx with hx | hx
   ·exact h.bok x hx
   ·exact (news_ok C h.pl h.ph hn x (List.mem_of_mem_take hx)).1
  ·have := rep_false (PM m ts0 (A + 1)).length i
   have e : at0 (List.replicate (PM m ts0 (A + 1)).length false) (i : Int) = true := ht
   rw [this] at e; cases e
 ·rw [if_neg hn, if_neg hn]
  exact ⟨h.fm, h.pl, h.ph, h.lg, h.lok, h.l0, h.bg, h.bok, hb, rfl, by omega, rfl, fun hlt => absurd hlt hn⟩
theorem list_map {α : Type} [Inhabited α] {β : Type} [Inhabited β] (g : α → β) (xs : List α) (ys : List β) (hl : ys.length = xs.length) (h : ∀ i : Nat, i < xs.length → at0 ys (i : Int) = g (at0 xs (i : Int))) : ys = xs.map g := by
 refine List.ext_getElem (by simpa using hl) fun i h1 h2 => ?_
 have hx : i < xs.length := by omega
 have := h i hx
 rw [at0_nat h1, at0_nat hx] at this
 rw [this]; simp
theorem come_step (C : Ctx m ts0 d) {f : FleetFleet} {A : Nat} {frs : List Fr} (h : WInv m ts0 f A frs) (alt : A < m.Layers.length) (ha : allAns m ts0 f A) (fuel : Nat) : fleet_Fleet_come_l1 (fuel + 1) f = fleet_Fleet_come_l1 fuel (adv m ts0 f A frs) := by
 obtain ⟨h1, h2, h3, h4⟩ := h.prt alt
 have hP := PM_len C A
 have hn4 := C.n4
 have hans : f.answers = (PM m ts0 A).map (VM m ts0 A) := list_map _ _ _ h2 fun i hi => h4 i hi (ha i hi)
 have hco : slices_Contains_bool_ro0 f.answered false = some false := by
  rcases contains_eq f.answered (by omega) with ⟨_, e⟩ | ⟨⟨j, hj, e⟩, _⟩
  ·exact e
  ·have := ha j (by omega); rw [e] at this; cases this
 have hcm : model_Combine_ro2 f.tokens f.parts f.answers = some (tk m ts0 (A + 1)) := by
  rw [h.tok, h1, hans, tk_succ alt]; exact fwd1_comb (C.lt alt)
 rw [fleet_Fleet_come_l1]
 refine bif_t (by rw [h.fat, h.fm]; omega) (bd_s hco (cb_t rfl (bd_s hcm ?_)))
 have ea : i64w (f.at_ + 1) = ((A + 1 : Nat) : Int) := by rw [h.fat, i64w_eq (by omega) (by omega)]; simp
 show (fleet_Fleet_begin { f with tokens := tk m ts0 (A + 1), at_ := i64w (f.at_ + 1) }).bind _ = _
 rw [ea]
 unfold adv
 by_cases hn : A + 1 < m.Layers.length
 ·rw [if_pos hn]
  refine bd_s (begin_eq C (f := nxt m ts0 f A) (A := A + 1) (b := frs) h.fm h.pl h.ph rfl hn rfl h.bg h.b200) ?_
  rw [advF, if_pos hn]; rfl
 ·rw [if_neg hn]
  exact bd_s (begin_out (by show (f.m.Layers.length : Int) ≤ ((A + 1 : Nat) : Int); rw [h.fm]; omega)) rfl
def Inv (m : ApiModel) (ts0 : List (List Int)) (f : FleetFleet) (A : Nat) (frs : List Fr) : Prop := WInv m ts0 f A frs ∧ (A < m.Layers.length → ¬ allAns m ts0 f A)
theorem come_ind (C : Ctx m ts0 d) (J : FleetFleet → Nat → List Fr → Prop) (hJ : ∀ f A frs, WInv m ts0 f A frs → A < m.Layers.length → allAns m ts0 f A → J f A frs → J (adv m ts0 f A frs) (A + 1) (advF m ts0 f A frs)) :
  ∀ (fuel : Nat) (f : FleetFleet) (A : Nat) (frs : List Fr), WInv m ts0 f A frs → J f A frs → m.Layers.length - A < fuel → ∃ f' A' frs', fleet_Fleet_come_l1 fuel f = some f' ∧ Inv m ts0 f' A' frs' ∧ J f' A' frs'
 | 0, f, A, frs, _, _, hf => by omega
 | fuel + 1, f, A, frs, h, hj, hf => by
  by_cases alt : A < m.Layers.length
  ·by_cases ha : allAns m ts0 f A
   ·obtain ⟨f', A', frs', e, h'⟩ := come_ind C J hJ fuel _ _ _ (adv_inv C h alt) (hJ f A frs h alt ha hj) (by omega)
    exact ⟨f', A', frs', by rw [come_step C h alt ha]; exact e, h'⟩
   ·refine ⟨f, A, frs, ?_, ⟨h, fun _ => ha⟩, hj⟩
    obtain ⟨h1, h2, h3, h4⟩ := h.prt alt
    have hP := PM_len C A
    rw [fleet_Fleet_come_l1]
    refine bif_t (by rw [h.fat, h.fm]; omega) ?_
    rcases contains_eq f.answered (by omega) with ⟨e, _⟩ | ⟨_, e⟩
    ·exact absurd (fun i hi => e i (by omega)) ha
    ·exact bd_s e (cb_f rfl rfl)
  ·refine ⟨f, A, frs, ?_, ⟨h, fun x => absurd x alt⟩, hj⟩
   rw [fleet_Fleet_come_l1]
   exact bif_f (by rw [h.fat, h.fm]; omega) rfl
theorem come_eq (C : Ctx m ts0 d) (J : FleetFleet → Nat → List Fr → Prop) (hJ : ∀ f A frs, WInv m ts0 f A frs → A < m.Layers.length → allAns m ts0 f A → J f A frs → J (adv m ts0 f A frs) (A + 1) (advF m ts0 f A frs))
  {f : FleetFleet} {A : Nat} {frs : List Fr} (h : WInv m ts0 f A frs) (hj : J f A frs) : ∃ f' A' frs', fleet_Fleet_come f = some f' ∧ Inv m ts0 f' A' frs' ∧ J f' A' frs' := by
 obtain ⟨f', A', frs', e, h'⟩ := come_ind C J hJ FUEL f A frs h hj (by have := C.n4; unfold FUEL; omega)
 exact ⟨f', A', frs', by unfold fleet_Fleet_come; exact bd_s e rfl, h'⟩
/-! ### answers -/
theorem pm_uniq : ∀ {ps : List ModelPart}, ps.Pairwise pNe → ∀ {p q : ModelPart}, p ∈ ps → q ∈ ps → p.Token = q.Token → p.Rank = q.Rank → p = q
 | [], _, p, q, hp, _, _, _ => by cases hp
 | x :: ps, h, p, q, hp, hq, h1, h2 => by
  rw [List.pairwise_cons] at h
  rcases List.mem_cons.1 hp with e1 | hp' <;> rcases List.mem_cons.1 hq with e2 | hq'
  ·rw [e1, e2]
  ·subst e1; exact absurd ⟨h1, h2⟩ (h.1 q hq')
  ·subst e2; exact absurd ⟨h1.symm, h2.symm⟩ (h.1 p hp')
  ·exact pm_uniq h.2 hp' hq' h1 h2
theorem PM_ne (L : Nat) : (PM m ts0 L).Pairwise pNe := parts_ne _ _
theorem idx_l1 (q : ApiMsg) : ∀ (ps : List ModelPart) (i : Nat), (∃ p ∈ ps, p.Token = q.Token ∧ p.Rank = q.Rank ∧ p.Expert = q.Expert) → ∃ j : Nat, j < ps.length ∧ slices_IndexFunc_model_Part_fleet_Fleet_answer_1_l1 q ps i = some (.ret ((i + j : Nat) : Int)) ∧ (at0 ps (j : Int)).Token = q.Token ∧ (at0 ps (j : Int)).Rank = q.Rank
 | [], i, h => by obtain ⟨p, hp, _⟩ := h; cases hp
 | x :: ps, i, h => by
  rw [slices_IndexFunc_model_Part_fleet_Fleet_answer_1_l1]
  have hx : fleet_Fleet_answer_1 x q = some (decide (x.Token = q.Token ∧ x.Rank = q.Rank ∧ x.Expert = q.Expert)) := by
   have e : ∀ u v : Int, (u == v) = decide (u = v) := fun u v => by by_cases h : u = v <;> simp [h]
   unfold fleet_Fleet_answer_1
   rw [e, e, e]
   by_cases a : x.Token = q.Token <;> by_cases b : x.Rank = q.Rank <;> by_cases c : x.Expert = q.Expert <;> simp [a, b, c]
  by_cases hm : x.Token = q.Token ∧ x.Rank = q.Rank ∧ x.Expert = q.Expert
  ·exact ⟨0, by simp, bd_s hx (cb_t (decide_eq_true hm) rfl), hm.1, hm.2.1⟩
  ·obtain ⟨p, hp, hpq⟩ := h
   have hp' : p ∈ ps := by
    rcases List.mem_cons.1 hp with e | hp
    ·subst e; exact absurd hpq hm
    ·exact hp
   obtain ⟨j, h1, h2, h3, h4⟩ := idx_l1 q ps (i + 1) ⟨p, hp', hpq⟩
   have e : at0 (x :: ps) ((j + 1 : Nat) : Int) = at0 ps (j : Int) := by rw [at0_nat (by simp; omega), at0_nat h1]; simp
   refine ⟨j + 1, by simp; omega, bd_s hx (cb_f (decide_eq_false hm) ?_), by rw [e]; exact h3, by rw [e]; exact h4⟩
   rw [h2]; congr 3; omega
def put1 (f : FleetFleet) (j : Nat) (v : List Int) : FleetFleet := { f with answers := f.answers.set j v, answered := f.answered.set j true }
theorem at0_set {α : Type} [Inhabited α] (xs : List α) (j i : Nat) (v : α) (hj : j < xs.length) : at0 (xs.set j v) (i : Int) = if i = j then v else at0 xs (i : Int) := by
 unfold at0
 rw [Int.toNat_natCast]
 by_cases h : i = j
 ·subst h; rw [if_pos rfl]; simp [hj]
 ·rw [if_neg h]
  simp [List.getElem?_set, show ¬ j = i from fun e => h e.symm]
theorem put1_inv {f : FleetFleet} {A : Nat} {frs : List Fr} (h : WInv m ts0 f A frs) (alt : A < m.Layers.length) {j : Nat} (hj : j < (PM m ts0 A).length) : WInv m ts0 (put1 f j (VM m ts0 A (at0 (PM m ts0 A) (j : Int)))) A frs := by
 obtain ⟨h1, h2, h3, h4⟩ := h.prt alt
 refine ⟨h.fm, h.pl, h.ph, h.lg, h.lok, h.l0, h.bg, h.bok, h.b200, h.fat, h.an, h.tok, fun _ => ⟨h1, by simpa [put1] using h2, by simpa [put1] using h3, fun i hi ht => ?_⟩⟩
 show at0 (f.answers.set j _) (i : Int) = _
 rw [at0_set _ _ _ _ (by omega)]
 have ht' : at0 (f.answered.set j true) (i : Int) = true := ht
 rw [at0_set _ _ _ _ (by omega)] at ht'
 by_cases e : i = j
 ·subst e; rw [if_pos rfl]
 ·rw [if_neg e] at ht' ⊢; exact h4 i hi ht'
theorem answer_rep (C : Ctx m ts0 d) {f : FleetFleet} {A : Nat} {frs : List Fr} (h : WInv m ts0 f A frs) {L : Nat} {p : ModelPart} (nd e : Int) (hL : L < m.Layers.length) (hp : p ∈ PM m ts0 L) :
  (fleet_Fleet_answer f (msgF m ts0 (.rep L p nd e)) = some f ∧ ¬ (L = A ∧ ∃ j : Nat, j < (PM m ts0 A).length ∧ at0 (PM m ts0 A) (j : Int) = p ∧ at0 f.answered (j : Int) = false)) ∨
  (L = A ∧ ∃ j : Nat, j < (PM m ts0 A).length ∧ at0 (PM m ts0 A) (j : Int) = p ∧ at0 f.answered (j : Int) = false ∧ fleet_Fleet_answer f (msgF m ts0 (.rep L p nd e)) = fleet_Fleet_come (put1 f j (VM m ts0 A p))) := by
 have hv := (VM_ok C hL hp).1
 unfold fleet_Fleet_answer
 by_cases hA : L = A
 ·subst hA
  obtain ⟨h1, h2, h3, h4⟩ := h.prt hL
  obtain ⟨j, j1, j2, j3, j4⟩ := idx_l1 (msgF m ts0 (.rep L p nd e)) (PM m ts0 L) 0 ⟨p, hp, rfl, rfl, rfl⟩
  have hjp : at0 (PM m ts0 L) (j : Int) = p := pm_uniq (PM_ne L) (at0_mem (by omega) (by omega)) hp j3 j4
  have hg : ((((((msgF m ts0 (.rep L p nd e)).Kind != 2) || ((msgF m ts0 (.rep L p nd e)).Batch != 1)) || ((msgF m ts0 (.rep L p nd e)).Layer != f.at_)) || (((msgF m ts0 (.rep L p nd e)).Vec.length : Int) != f.m.Dim)) || (decide ((f.m.Layers.length : Int) ≤ f.at_))) = false := by
   have e1 : (msgF m ts0 (.rep L p nd e)).Vec.length = d := hv
   rw [h.fat, h.fm, C.dim, e1]
   simp [msgF]; omega
  have hix : slices_IndexFunc_model_Part_fleet_Fleet_answer_1 f.parts (msgF m ts0 (.rep L p nd e)) = some (j : Int) := by
   unfold slices_IndexFunc_model_Part_fleet_Fleet_answer_1
   rw [h1]
   refine bd_s j2 ?_
   simp
  have hjn : Int.toNat (j : Int) = j := by simp
  cases hb : at0 f.answered (j : Int) with
  | true =>
   refine .inl ⟨cb_f hg (bd_s hix (bif_f (by omega) (cb_t (inb_nat (by omega)) (cb_t hb rfl)))), ?_⟩
   rintro ⟨_, k, k1, k2, k3⟩
   have : k = j := by
    have hpw := PM_ne (m := m) (ts0 := ts0) L
    rcases Nat.lt_trichotomy k j with hlt | he | hlt
    ·have := List.pairwise_iff_getElem.1 hpw k j k1 j1 hlt
     rw [at0_nat k1] at k2; rw [at0_nat j1] at hjp
     rw [k2, hjp] at this; exact absurd ⟨rfl, rfl⟩ this
    ·exact he
    ·have := List.pairwise_iff_getElem.1 hpw j k j1 k1 hlt
     rw [at0_nat k1] at k2; rw [at0_nat j1] at hjp
     rw [k2, hjp] at this; exact absurd ⟨rfl, rfl⟩ this
   subst this
   rw [hb] at k3; cases k3
  | false =>
   refine .inr ⟨rfl, j, j1, hjp, hb, ?_⟩
   have e0 : (put1 f j (VM m ts0 L p)) = ({ f with answers := f.answers.set (Int.toNat (j : Int)) (VM m ts0 L p), answered := f.answered.set (Int.toNat (j : Int)) true } : FleetFleet) := by rw [hjn]; rfl
   refine cb_f hg (bd_s hix (bif_f (by omega) (cb_t (inb_nat (by omega)) (cb_f hb (cb_t (inb_nat (by omega)) (cb_t (inb_nat (by omega)) ?_))))))
   rw [e0]
   show (fleet_Fleet_come _).bind _ = _
   cases hc : fleet_Fleet_come ({ f with answers := f.answers.set (Int.toNat (j : Int)) (VM m ts0 L p), answered := f.answered.set (Int.toNat (j : Int)) true } : FleetFleet) with
   | none => exact bd_n hc
   | some z => exact bd_s hc rfl
 ·refine .inl ⟨cb_t ?_ rfl, fun hh => hA hh.1⟩
  have : ((msgF m ts0 (.rep L p nd e)).Layer != f.at_) = true := by
   rw [h.fat]; simp [msgF]; omega
  rw [this]; simp
end
end Go.Sw.FL

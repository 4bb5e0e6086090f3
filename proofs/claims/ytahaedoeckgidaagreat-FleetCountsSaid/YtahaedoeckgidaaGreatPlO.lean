/- The plain law: where every part that waits has one frame on its way, the frames run out only when all is answered. -/
import Derived.Test.YtahaedoeckgidaaGreatPlN
set_option linter.unusedVariables false
set_option linter.unusedSimpArgs false
namespace Go.Sw.FL
section
variable {m : ApiModel} {ts0 : List (List Int)} {d : Nat}
def fresh (f : FleetFleet) (A : Nat) : Fr → Prop
 | .ask L p to e => L = A ∧ e = f.p.Epoch ∧ to ∈ at0 f.p.Holders p.Expert
 | .rep L p nd e => L = A
 | .sta _ _ _ _ => False
structure Clean (m : ApiModel) (ts0 : List (List Int)) (f : FleetFleet) (A : Nat) (frs : List Fr) : Prop where
 fr : ∀ x ∈ frs, fresh f A x
 nd : frs.Pairwise (fun x y => pNe x.p y.p)
 un : ∀ x ∈ frs, ∃ j : Nat, j < (PM m ts0 A).length ∧ at0 (PM m ts0 A) (j : Int) = x.p ∧ at0 f.answered (j : Int) = false
 cov : A < m.Layers.length → ∀ j : Nat, j < (PM m ts0 A).length → at0 f.answered (j : Int) = false → ∃ x ∈ frs, x.p = at0 (PM m ts0 A) (j : Int)
 em : ¬ A < m.Layers.length → frs = []
theorem pm_at {ps : List ModelPart} (h : ps.Pairwise pNe) {i j : Nat} (hi : i < ps.length) (hj : j < ps.length) (hn : i ≠ j) : pNe (at0 ps (i : Int)) (at0 ps (j : Int)) := by
 rw [at0_nat hi, at0_nat hj]
 rcases Nat.lt_or_ge i j with hlt | hge
 ·exact List.pairwise_iff_getElem.1 h i j hi hj hlt
 ·have := List.pairwise_iff_getElem.1 h j i hj hi (by omega)
  unfold pNe at this ⊢; omega
theorem pNe_sym {p q : ModelPart} (h : pNe p q) : pNe q p := by unfold pNe at h ⊢; omega
theorem pNe_irr {p : ModelPart} (h : pNe p p) : False := h ⟨rfl, rfl⟩
theorem clean_adv (C : Ctx m ts0 d) (f : FleetFleet) (A : Nat) (frs : List Fr) (h : WInv m ts0 f A frs) (alt : A < m.Layers.length) (ha : allAns m ts0 f A) (hc : Clean m ts0 f A frs) : frs = [] ∧ Clean m ts0 (adv m ts0 f A frs) (A + 1) (advF m ts0 f A frs) := by
 have hf : frs = [] := by
  cases frs with
  | nil => rfl
  | cons x l =>
   obtain ⟨j, j1, _, j3⟩ := hc.un x (by simp)
   have := ha j j1; rw [j3] at this; cases this
 refine ⟨hf, ?_⟩
 subst hf
 have hnl := news_len C f (A + 1)
 unfold adv advF
 by_cases hn : A + 1 < m.Layers.length
 ·rw [if_pos hn, if_pos hn]
  have e1 : ([] : List Fr) ++ (news m ts0 f (A + 1)).take (200 - ([] : List Fr).length) = news m ts0 f (A + 1) := by rw [List.nil_append, List.take_of_length_le (by simp; omega)]
  rw [e1]
  refine ⟨fun x hx => ?_, ?_, fun x hx => ?_, fun _ j hj _ => ?_, fun h => absurd hn h⟩
  ·obtain ⟨_, p, hp, rfl, hm⟩ := news_ok C h.pl h.ph hn x hx
   exact ⟨rfl, rfl, hm⟩
  ·unfold news; rw [List.pairwise_map]; exact PM_ne _
  ·obtain ⟨p, hp, rfl⟩ := List.mem_map.1 hx
   obtain ⟨j, hj, rfl⟩ := List.getElem_of_mem hp
   exact ⟨j, hj, at0_nat hj, rep_false _ j⟩
  ·exact ⟨askFr f (A + 1) (at0 (PM m ts0 (A + 1)) (j : Int)), List.mem_map_of_mem (at0_mem (by omega) (by omega)), rfl⟩
 ·rw [if_neg hn, if_neg hn]
  exact ⟨fun x hx => absurd hx (by simp), List.Pairwise.nil, fun x hx => absurd hx (by simp), fun h => absurd h hn, fun _ => rfl⟩
/-- What one delivery does, where each frame is fresh. -/
theorem clean_ask (C : Ctx m ts0 d) {f : FleetFleet} {A : Nat} {post : List Fr} {L : Nat} {p : ModelPart} {to e : Int} (h : Inv m ts0 f A (.ask L p to e :: post)) (hc : Clean m ts0 f A (.ask L p to e :: post)) :
  L = A ∧ ∃ l', fleet_Fleet_Deliver f 0 = some (delA f (post ++ [.rep L p to f.p.Epoch]) m ts0 to l', 0) ∧ Inv m ts0 (delA f (post ++ [.rep L p to f.p.Epoch]) m ts0 to l') A (post ++ [.rep L p to f.p.Epoch]) ∧ Clean m ts0 (delA f (post ++ [.rep L p to f.p.Epoch]) m ts0 to l') A (post ++ [.rep L p to f.p.Epoch]) ∧
   ((l' = at0 f.ledgers to ∧ ∃ y ∈ at0 f.ledgers to, y.Key = keyF L p) ∨ ((∀ y ∈ at0 f.ledgers to, y.Key ≠ keyF L p) ∧ l' = at0 f.ledgers to ++ [⟨keyF L p, VM m ts0 L p⟩])) := by
 have h1 : WInv m ts0 f A ([] ++ .ask L p to e :: post) := h.1
 obtain ⟨hL, he, hm⟩ : fresh f A (.ask L p to e) := hc.fr _ (by simp)
 obtain ⟨l', x, e1, e2, e3, e4⟩ := deliver_ask C h1
 rcases e4 with ⟨_, _, hno⟩ | ⟨rfl, _, e5⟩
 ·exact absurd ⟨he, hm⟩ hno
 have hnd := hc.nd
 rw [List.pairwise_cons] at hnd
 refine ⟨hL, l', e1, ⟨e2, h.2⟩, ⟨fun y hy => ?_, ?_, fun y hy => ?_, fun alt j hj ha => ?_, fun hn => ?_⟩, e5⟩
 ·rcases List.mem_append.1 hy with hy | hy
  ·have := hc.fr y (by simp [hy])
   cases y <;> exact this
  ·simp only [List.mem_cons, List.not_mem_nil, or_false] at hy
   subst hy; exact hL
 ·rw [List.pairwise_append]
  refine ⟨hnd.2, by simp, fun a ha b hb => ?_⟩
  simp only [List.mem_cons, List.not_mem_nil, or_false] at hb
  subst hb
  exact pNe_sym (hnd.1 a ha)
 ·rcases List.mem_append.1 hy with hy | hy
  ·exact hc.un y (by simp [hy])
  ·simp only [List.mem_cons, List.not_mem_nil, or_false] at hy
   subst hy
   exact hc.un (.ask L p to e) (by simp)
 ·obtain ⟨y, hy, hp⟩ := hc.cov alt j hj ha
  rcases List.mem_cons.1 hy with rfl | hy
  ·exact ⟨.rep L p to f.p.Epoch, by simp, hp⟩
  ·exact ⟨y, by simp [hy], hp⟩
 ·have := hc.em hn; cases this
theorem clean_rep (C : Ctx m ts0 d) (J : FleetFleet → Nat → List Fr → Prop) (hJ : ∀ f A frs, WInv m ts0 f A frs → A < m.Layers.length → allAns m ts0 f A → Clean m ts0 f A frs → J f A frs → J (adv m ts0 f A frs) (A + 1) (advF m ts0 f A frs))
  {f : FleetFleet} {A : Nat} {post : List Fr} {L : Nat} {p : ModelPart} {nd e : Int} (h : Inv m ts0 f A (.rep L p nd e :: post)) (hc : Clean m ts0 f A (.rep L p nd e :: post))
  (hj : ∀ j, J (put1 (less m ts0 f post) j (VM m ts0 A p)) A post) : ∃ f' A' frs', fleet_Fleet_Deliver f 0 = some (f', 0) ∧ Inv m ts0 f' A' frs' ∧ Clean m ts0 f' A' frs' ∧ J f' A' frs' := by
 have h1 : WInv m ts0 f A ([] ++ .rep L p nd e :: post) := h.1
 have hL : L = A := hc.fr (.rep L p nd e) (by simp)
 subst hL
 have hok := h.1.bok (.rep L p nd e) (by simp)
 have h200 := h.1.b200
 have hw := less_inv h.1 (frs' := post) (fun y hy => by simp [hy]) (by simp at h200; omega)
 have hdel : fleet_Fleet_Deliver f 0 = (fleet_Fleet_answer (less m ts0 f post) (msgF m ts0 (.rep L p nd e))).bind fun g => some (g, 0) := deliver_rep C h1
 rw [hdel]
 rcases answer_rep C hw nd e hok.1 hok.2.1 with ⟨_, hno⟩ | ⟨_, j, j1, j2, j3, e1⟩
 ·exact absurd ⟨rfl, hc.un (.rep L p nd e) (by simp)⟩ hno
 have hp1 := put1_inv hw hok.1 j1
 rw [j2] at hp1
 have hnd := hc.nd
 rw [List.pairwise_cons] at hnd
 have hal : j < f.answered.length := by have := (h.1.prt hok.1).2.2.1; omega
 have hcl : Clean m ts0 (put1 (less m ts0 f post) j (VM m ts0 L p)) L post := by
  refine ⟨fun y hy => ?_, hnd.2, fun y hy => ?_, fun alt k hk ha => ?_, fun hn => absurd hok.1 hn⟩
  ·have := hc.fr y (by simp [hy])
   cases y <;> exact this
  ·obtain ⟨k, k1, k2, k3⟩ := hc.un y (by simp [hy])
   refine ⟨k, k1, k2, ?_⟩
   show at0 (f.answered.set j true) (k : Int) = false
   rw [at0_set _ _ _ _ hal]
   by_cases hkj : k = j
   ·subst hkj
    rw [j2] at k2
    have := hnd.1 y hy
    rw [← k2] at this
    exact absurd this (fun h => pNe_irr h)
   ·rw [if_neg hkj]; exact k3
  ·have ha' : at0 (f.answered.set j true) (k : Int) = false := ha
   rw [at0_set _ _ _ _ hal] at ha'
   by_cases hkj : k = j
   ·rw [if_pos hkj] at ha'; cases ha'
   ·rw [if_neg hkj] at ha'
    obtain ⟨y, hy, hp⟩ := hc.cov alt k hk ha'
    rcases List.mem_cons.1 hy with rfl | hy
    ·have := pm_at (PM_ne (m := m) (ts0 := ts0) L) hk j1 hkj
     rw [j2, ← hp] at this
     exact absurd this (fun h => pNe_irr h)
    ·exact ⟨y, hy, hp⟩
 obtain ⟨f', A', frs', c1, c2, c3, c4⟩ := come_eq C (fun f A frs => Clean m ts0 f A frs ∧ J f A frs) (fun f A frs hw alt ha hj => ⟨(clean_adv C f A frs hw alt ha hj.1).2, hJ f A frs hw alt ha hj.1 hj.2⟩) hp1 ⟨hcl, hj j⟩
 exact ⟨f', A', frs', bd_s (e1.trans c1) rfl, c2, c3, c4⟩
theorem clean_done (C : Ctx m ts0 d) {f : FleetFleet} {A : Nat} (h : Inv m ts0 f A []) (hc : Clean m ts0 f A []) : A = m.Layers.length := by
 have han := h.1.an
 rcases Nat.lt_or_ge A m.Layers.length with alt | hge
 ·have := h.2 alt
  refine absurd (fun j hj => ?_) this
  cases hv : at0 f.answered (j : Int) with
  | true => rfl
  | false => obtain ⟨x, hx, _⟩ := hc.cov alt j hj hv; cases hx
 ·omega
/-! ### it asks, and each part that waits has its frame -/
end
end Go.Sw.FL

/- The plain law: where nothing is lost, each part is worked out once, and two frames are delivered for it. -/
import Derived.Test.YtahaedoeckgidaaGreatPlP
set_option linter.unusedVariables false
set_option linter.unusedSimpArgs false
namespace Go.Sw.FL
section
variable {m : ApiModel} {ts0 : List (List Int)} {d : Nat}
def sumP (m : ApiModel) (ts0 : List (List Int)) : Nat → Nat
 | 0 => 0
 | k + 1 => sumP m ts0 k + (PM m ts0 k).length
theorem sumP_le (C : Ctx m ts0 d) : ∀ k, sumP m ts0 k ≤ 32 * k
 | 0 => by simp [sumP]
 | k + 1 => by have := sumP_le C k; have := PM_len C k; rw [sumP]; omega
def mn (m : ApiModel) (A : Nat) : Nat := if A < m.Layers.length then A + 1 else m.Layers.length
def asum (l : List Fr) : Nat := (l.map fun x => x.w - 1).sum
theorem asum_app (a b : List Fr) : asum (a ++ b) = asum a + asum b := by simp [asum]
theorem asum_cons (x : Fr) (b : List Fr) : asum (x :: b) = (x.w - 1) + asum b := by simp [asum]
theorem news_sum (f : FleetFleet) (A : Nat) : wsum (news m ts0 f A) = 2 * (PM m ts0 A).length ∧ asum (news m ts0 f A) = (PM m ts0 A).length := by
 unfold news
 generalize PM m ts0 A = ps
 induction ps with
 | nil => exact ⟨rfl, rfl⟩
 | cons p ps ih =>
  rw [List.map_cons, wsum_cons, asum_cons, ih.1, ih.2]
  have : (askFr f A p).w = 2 := rfl
  rw [this]; simp; omega
structure Cnt (m : ApiModel) (ts0 : List (List Int)) (f : FleetFleet) (A : Nat) (frs : List Fr) (cnt : Nat) : Prop where
 c1 : cnt + wsum frs = 2 * sumP m ts0 (mn m A)
 c2 : lens f 5 + asum frs = sumP m ts0 (mn m A)
 c3 : ∀ l ∈ f.ledgers, ∀ x ∈ l, x.Key.Layer ≤ (A : Int)
 c4 : ∀ y ∈ frs, y.w = 2 → ∀ l ∈ f.ledgers, ∀ x ∈ l, x.Key ≠ keyF A y.p
theorem lens_eq {f g : FleetFleet} (h : f.ledgers = g.ledgers) : ∀ k, lens f k = lens g k
 | 0 => rfl
 | k + 1 => by rw [lens, lens, lens_eq h k, h]
theorem adv_led (f : FleetFleet) (A : Nat) (frs : List Fr) : (adv m ts0 f A frs).ledgers = f.ledgers := by unfold adv; split <;> rfl
theorem cnt_adv (C : Ctx m ts0 d) {cnt : Nat} (f : FleetFleet) (A : Nat) (frs : List Fr) (h : WInv m ts0 f A frs) (alt : A < m.Layers.length) (ha : allAns m ts0 f A) (hc : Clean m ts0 f A frs) (hk : Cnt m ts0 f A frs cnt) : Cnt m ts0 (adv m ts0 f A frs) (A + 1) (advF m ts0 f A frs) cnt := by
 have hf := (clean_adv C f A frs h alt ha hc).1
 subst hf
 have hnl := news_len C f (A + 1)
 obtain ⟨n1, n2⟩ := news_sum (m := m) (ts0 := ts0) f (A + 1)
 have hc1 := hk.c1
 have hc2 := hk.c2
 have w0 : wsum [] = 0 := rfl
 have a0 : asum [] = 0 := rfl
 have hm : mn m A = A + 1 := if_pos alt
 rw [w0, hm] at hc1
 rw [a0, hm] at hc2
 have hl := adv_led (m := m) (ts0 := ts0) f A []
 refine ⟨?_, ?_, fun l hll x hx => ?_, fun y hy hw l hll x hx => ?_⟩
 ·by_cases hn : A + 1 < m.Layers.length
  ·have e1 : advF m ts0 f A [] = news m ts0 f (A + 1) := by unfold advF; rw [if_pos hn, List.nil_append, List.take_of_length_le (by simp; omega)]
   have e2 : mn m (A + 1) = A + 1 + 1 := if_pos hn
   rw [e1, e2, n1, sumP]; omega
  ·have e1 : advF m ts0 f A [] = [] := if_neg hn
   have e2 : mn m (A + 1) = A + 1 := by unfold mn; rw [if_neg hn]; omega
   rw [e1, e2]; omega
 ·rw [lens_eq hl]
  by_cases hn : A + 1 < m.Layers.length
  ·have e1 : advF m ts0 f A [] = news m ts0 f (A + 1) := by unfold advF; rw [if_pos hn, List.nil_append, List.take_of_length_le (by simp; omega)]
   have e2 : mn m (A + 1) = A + 1 + 1 := if_pos hn
   rw [e1, e2, n2, sumP]; omega
  ·have e1 : advF m ts0 f A [] = [] := if_neg hn
   have e2 : mn m (A + 1) = A + 1 := by unfold mn; rw [if_neg hn]; omega
   rw [e1, e2]; omega
 ·rw [hl] at hll
  have := hk.c3 l hll x hx
  omega
 ·rw [hl] at hll
  have := hk.c3 l hll x hx
  intro e
  rw [e] at this
  have e2 : (keyF (A + 1) y.p).Layer = ((A + 1 : Nat) : Int) := rfl
  rw [e2] at this
  omega
theorem lens_set {f : FleetFleet} (h5 : f.ledgers.length = 5) (t : Nat) (ht : t < 5) (l' : List LedgerEntry) (hl : l'.length = (at0 f.ledgers (t : Int)).length + 1) (b : List Str) : ∀ k, lens { f with bag := b, ledgers := f.ledgers.set t l' } k = lens f k + if t < k then 1 else 0
 | 0 => by simp [lens]
 | k + 1 => by
  rw [lens, lens, lens_set h5 t ht l' hl b k]
  show lens f k + (if t < k then 1 else 0) + (at0 (f.ledgers.set t l') (k : Int)).length = _
  rw [at0_set _ _ _ _ (by omega)]
  by_cases hk : k = t
  ·subst hk
   rw [if_pos rfl, if_neg (by omega), if_pos (by omega), hl]; omega
  ·rw [if_neg hk]
   by_cases ht : t < k
   ·rw [if_pos ht, if_pos (by omega)]; omega
   ·rw [if_neg ht, if_neg (by omega)]; omega
theorem cnt_step (C : Ctx m ts0 d) {f : FleetFleet} {A : Nat} {frs : List Fr} {cnt : Nat} (h : Inv m ts0 f A frs) (hc : Clean m ts0 f A frs) (hk : Cnt m ts0 f A frs cnt) (hne : frs ≠ []) :
  ∃ f' A' frs', fleet_Fleet_Deliver f 0 = some (f', 0) ∧ Inv m ts0 f' A' frs' ∧ Clean m ts0 f' A' frs' ∧ Cnt m ts0 f' A' frs' (cnt + 1) ∧ phi m A' frs' < phi m A frs := by
 have w0 : wsum [] = 0 := rfl
 have a0 : asum [] = 0 := rfl
 match frs, hne with
 | .ask L p to e :: post, _ =>
  obtain ⟨hL, l', e1, e2, e3, e4⟩ := clean_ask C h hc
  subst hL
  have hto : 1 ≤ to ∧ to ≤ 4 := (h.1.bok (.ask L p to e) (by simp)).2.2.1
  have hlm : at0 f.ledgers to ∈ f.ledgers := at0_mem (by omega) (by rw [h.1.lg]; omega)
  rcases e4 with ⟨_, y, hy, hyk⟩ | ⟨_, hl'⟩
  ·exact absurd hyk (hk.c4 (.ask L p to e) (by simp) rfl _ hlm y hy)
  have hnd := hc.nd
  rw [List.pairwise_cons] at hnd
  have hc1 := hk.c1
  have hc2 := hk.c2
  rw [wsum_cons] at hc1
  rw [asum_cons] at hc2
  simp only [Fr.w] at hc1 hc2
  have htn : ((to.toNat : Nat) : Int) = to := by omega
  refine ⟨_, _, _, e1, e2, e3, ⟨?_, ?_, fun l hl x hx => ?_, fun y hy hw l hl x hx => ?_⟩, ?_⟩
  ·rw [wsum_app, wsum_cons, w0]; simp only [Fr.w]; omega
  ·rw [asum_app, asum_cons, a0]
   have := lens_set (f := f) h.1.lg to.toNat (by omega) l' (by rw [hl', htn]; simp) ((post ++ [Fr.rep L p to f.p.Epoch]).map (str m ts0)) 5
   have e5 : lens (delA f (post ++ [.rep L p to f.p.Epoch]) m ts0 to l') 5 = lens f 5 + 1 := by
    rw [show (lens (delA f (post ++ [.rep L p to f.p.Epoch]) m ts0 to l') 5) = _ from this, if_pos (by omega)]
   rw [e5]; simp only [Fr.w]; omega
  ·rcases List.mem_or_eq_of_mem_set hl with hl | rfl
   ·exact hk.c3 l hl x hx
   ·rw [hl'] at hx
    rcases List.mem_append.1 hx with hx | hx
    ·exact hk.c3 _ hlm x hx
    ·simp only [List.mem_cons, List.not_mem_nil, or_false] at hx
     subst hx; exact Int.le_refl _
  ·have hyp : y ∈ post := by
    rcases List.mem_append.1 hy with hy | hy
    ·exact hy
    ·simp only [List.mem_cons, List.not_mem_nil, or_false] at hy
     subst hy; cases hw
   rcases List.mem_or_eq_of_mem_set hl with hl | rfl
   ·exact hk.c4 y (by simp [hyp]) hw l hl x hx
   ·rw [hl'] at hx
    rcases List.mem_append.1 hx with hx | hx
    ·exact hk.c4 y (by simp [hyp]) hw _ hlm x hx
    ·simp only [List.mem_cons, List.not_mem_nil, or_false] at hx
     subst hx
     intro he
     have hn := hnd.1 y hyp
     simp only [keyF, LedgerKey.mk.injEq] at he
     exact hn ⟨he.2.2.1, he.2.2.2⟩
  ·unfold phi
   rw [wsum_app, wsum_cons, wsum_cons, w0]
   simp only [Fr.w]
   omega
 | .rep L p nd e :: post, _ =>
  have hc1 := hk.c1
  have hc2 := hk.c2
  rw [wsum_cons] at hc1
  rw [asum_cons] at hc2
  simp only [Fr.w] at hc1 hc2
  obtain ⟨f', A', frs', e1, e2, e3, e4, e5⟩ := clean_rep C (fun f A' frs' => phi m A' frs' ≤ phi m A post ∧ Cnt m ts0 f A' frs' (cnt + 1)) (fun f A frs hw alt ha hcl hj => ⟨Nat.le_trans (phi_adv C f frs alt) hj.1, cnt_adv C f A frs hw alt ha hcl hj.2⟩) h hc
   (fun j => ⟨Nat.le_refl _, ⟨by omega, by show lens f 5 + asum post = _; omega, hk.c3, fun y hy => hk.c4 y (by simp [hy])⟩⟩)
  refine ⟨f', A', frs', e1, e2, e3, e5, Nat.lt_of_le_of_lt e4 ?_⟩
  unfold phi
  rw [wsum_cons]
  simp only [Fr.w]
  omega
 | .sta L p nd e :: post, _ => exact (hc.fr (.sta L p nd e) (by simp)).elim
theorem mn_le (A : Nat) : mn m A ≤ m.Layers.length := by unfold mn; split <;> omega
theorem count_l2 (C : Ctx m ts0 d) : ∀ (fuel : Nat) (f : FleetFleet) (A : Nat) (frs : List Fr) (cnt : Nat), Inv m ts0 f A frs → Clean m ts0 f A frs → Cnt m ts0 f A frs cnt → phi m A frs < fuel →
  ∃ f', switchboardlaw19_FleetCounts_l2 fuel f (cnt : Int) = some (f', ((2 * sumP m ts0 m.Layers.length : Nat) : Int)) ∧ Inv m ts0 f' m.Layers.length [] ∧ lens f' 5 = sumP m ts0 m.Layers.length
 | 0, f, A, frs, cnt, _, _, _, hp => by omega
 | fuel + 1, f, A, frs, cnt, h, hc, hk, hp => by
  have h1 := hk.c1
  have h2 := hk.c2
  have hs := sumP_le C (mn m A)
  have hm := mn_le (m := m) A
  have hn4 := C.n4
  rw [switchboardlaw19_FleetCounts_l2]
  refine (fun z => ?_ : (∃ f', (bif decide ((cnt : Int) < 1000) then ((fleet_Fleet_Deliver f 0).bind fun t143 => (bif t143.2 == 0 then (switchboardlaw19_FleetCounts_l2 fuel t143.1 (i64w ((cnt : Int) + 1))) else (some (t143.1, (cnt : Int))))) else (some (f, (cnt : Int)))) = some (f', ((2 * sumP m ts0 m.Layers.length : Nat) : Int)) ∧ Inv m ts0 f' m.Layers.length [] ∧ lens f' 5 = sumP m ts0 m.Layers.length) → _) ?_
  ·exact z
  by_cases hne : frs = []
  ·subst hne
   have hb := bag_nil h.1
   have hA := clean_done C h hc
   subst hA
   have e : mn m m.Layers.length = m.Layers.length := if_neg (by omega)
   have w0 : wsum [] = 0 := rfl
   have a0 : asum [] = 0 := rfl
   rw [e, w0] at h1
   rw [e, a0] at h2
   rw [e] at hs
   refine ⟨f, bif_t (by omega) (bd_s (deliver_out h.1 0 (by rw [hb]; simp)) (cb_f rfl ?_)), h, by omega⟩
   rw [show cnt = 2 * sumP m ts0 m.Layers.length from by omega]
  ·obtain ⟨f1, A1, frs1, e1, e2, e3, e4, e5⟩ := cnt_step C h hc hk hne
   obtain ⟨f', g1, g2⟩ := count_l2 C fuel f1 A1 frs1 (cnt + 1) e2 e3 e4 (by omega)
   refine ⟨f', bif_t (by omega) (bd_s e1 (cb_t rfl ?_)), g2⟩
   rw [i64s cnt (by omega)]; exact g1
theorem count_l1 (C : Ctx m ts0 d) : ∀ (suf : List ApiLayer) (i : Nat), m.Layers.drop i = suf → i ≤ m.Layers.length → switchboardlaw19_FleetCounts_l1 m suf i ((sumP m ts0 i : Nat) : Int) (tk m ts0 i) = some (((sumP m ts0 m.Layers.length : Nat) : Int), tk m ts0 m.Layers.length)
 | [], i, hd, hi => by
  have := List.drop_eq_nil_iff.1 hd
  rw [switchboardlaw19_FleetCounts_l1, show i = m.Layers.length from by omega]
 | l :: suf, i, hd, hi => by
  have hlt : i < m.Layers.length := by
   rcases Nat.lt_or_ge i m.Layers.length with h | h
   ·exact h
   ·rw [List.drop_eq_nil_iff.2 h] at hd; cases hd
  have hn4 := C.n4
  have hd' := hd
  rw [List.drop_eq_getElem_cons hlt] at hd'
  injection hd' with hl hd2
  have hat : at0 m.Layers (i : Int) = l := by rw [at0_nat hlt, hl]
  have hLT := C.lt hlt
  rw [hat] at hLT
  have hw : i64w ((i : Int) + 1) = ((i + 1 : Nat) : Int) := i64s i (by omega)
  have hcut : lcut m.Layers (i : Int) ((i + 1 : Nat) : Int) = [l] := by
   unfold lcut
   rw [Int.toNat_natCast, Int.toNat_natCast, List.take_succ_eq_append_getElem hlt, List.drop_append_of_le_length (by simp; omega)]
   rw [List.drop_eq_nil_iff.2 (by rw [List.length_take]; omega), hl]; rfl
  have hfw : switchboardref15_Forward (⟨m.Dim, [l]⟩ : ApiModel) (tk m ts0 i) = some (tk m ts0 (i + 1)) := by
   rw [rfwd_eq (m := ⟨m.Dim, [l]⟩) C.d8 (fun x hx => by simp only [List.mem_cons, List.not_mem_nil, or_false] at hx; subst hx; exact hLT.1) (C.rect i) (by rw [tk_len]; exact C.t16), tk_succ hlt, hat]; rfl
  have hpm : parts l (tk m ts0 i) = PM m ts0 i := by unfold PM; rw [hat]
  have hs := sumP_le C i
  have hpl := PM_len C i
  rw [switchboardlaw19_FleetCounts_l1, hw, hcut]
  refine bd_s (rparts_eq hLT) (cb_t (by simp [cutOk]; omega) (bd_s hfw ?_))
  rw [hpm, i64w_eq (by omega) (by omega)]
  have e : ((sumP m ts0 i : Nat) : Int) + ((PM m ts0 i).length : Int) = ((sumP m ts0 (i + 1) : Nat) : Int) := by rw [sumP]; simp
  rw [e]
  exact count_l1 C suf (i + 1) hd2 (by omega)
end
theorem fleetCounts_eq (m : ApiModel) (p : PlaceMap) (ts : List (List Int)) : switchboardlaw19_FleetCounts m p ts = some true := by
 have aw : (switchboardlaw19_awake.bind fun t => some t) = some true := by rw [awake_eq]; rfl
 unfold switchboardlaw19_FleetCounts
 refine bd_s (s15_eq m) ?_
 cases h1 : s15 m with
 | false => exact cb_t rfl aw
 | true =>
 refine cb_f rfl (bd_s (s03_eq p.Holders) ?_)
 cases h2 : s03 p.Holders with
 | false => exact cb_t rfl aw
 | true =>
 refine cb_f rfl (bd_s (s03_eq ts) ?_)
 cases h3 : s03 ts with
 | false => exact cb_t rfl aw
 | true =>
 refine cb_f rfl (bd_s (may_eq h1 h2 h3) ?_)
 cases h4 : mayB m p ts with
 | false => exact cb_t rfl aw
 | true =>
 obtain ⟨C, hp, hph, _⟩ := ctx_of h4
 have hn4 := C.n4
 have hn1 := C.n1
 have hs := sumP_le C m.Layers.length
 have hm0 : mn m 0 = 1 := if_pos (by omega)
 obtain ⟨n1, n2⟩ := news_sum (m := m) (ts0 := ts) (g0 m p ts) 0
 have hcl : Clean m ts (f1 m p ts) 0 (news m ts (g0 m p ts) 0) := by
  refine ⟨fun x hx => ?_, ?_, fun x hx => ?_, fun _ j hj _ => ?_, fun h => absurd (show 0 < m.Layers.length by omega) h⟩
  ·obtain ⟨_, q, hq, rfl, hm⟩ := news_ok C (f := g0 m p ts) hp hph (by omega) x hx
   exact ⟨rfl, rfl, hm⟩
  ·unfold news; rw [List.pairwise_map]; exact PM_ne _
  ·obtain ⟨q, hq, rfl⟩ := List.mem_map.1 hx
   obtain ⟨j, hj, rfl⟩ := List.getElem_of_mem hq
   exact ⟨j, hj, at0_nat hj, rep_false _ j⟩
  ·exact ⟨askFr (g0 m p ts) 0 (at0 (PM m ts 0) (j : Int)), List.mem_map_of_mem (at0_mem (by omega) (by omega)), rfl⟩
 have hled : ∀ l ∈ (f1 m p ts).ledgers, l = [] := fun l hl => (List.mem_replicate.1 (show l ∈ List.replicate 5 ([] : List LedgerEntry) from hl)).2
 have hct : Cnt m ts (f1 m p ts) 0 (news m ts (g0 m p ts) 0) 0 := by
  refine ⟨?_, ?_, fun l hl x hx => ?_, fun y hy hw l hl x hx => ?_⟩
  ·rw [n1, hm0, sumP, sumP]; omega
  ·have : lens (f1 m p ts) 5 = 0 := rfl
   rw [this, n2, hm0, sumP, sumP]
  ·rw [hled l hl] at hx; cases hx
  ·rw [hled l hl] at hx; cases hx
 obtain ⟨f, A, frs, e1, e2, e3, e4⟩ := new_eq h4 (fun f A frs => Clean m ts f A frs ∧ Cnt m ts f A frs 0) (fun f A frs hw alt ha hj => ⟨(clean_adv C f A frs hw alt ha hj.1).2, cnt_adv C f A frs hw alt ha hj.1 hj.2⟩) ⟨hcl, hct⟩
 obtain ⟨f', g1, g2, g3⟩ := count_l2 C FUEL f A frs 0 e2 e3 e4 (by have := phi_small C e2; unfold FUEL; omega)
 obtain ⟨w1, _⟩ := worked_eq C g2.1
 refine cb_f rfl (bd_s e1 ?_)
 refine bd_s (count_l1 C m.Layers 0 rfl (by omega)) (bd_s g1 ?_)
 rcases done_eq C g2.1 with ⟨hlt, _⟩ | ⟨_, d1⟩
 ·omega
 refine bd_s d1 (cb_t rfl ?_)
 rw [tk_all]
 refine bd_s (fwd_same C) (cb_t rfl (bd_s w1 (cb_t ?_ aw)))
 rw [g3, i64w_eq (by omega) (by omega)]
 simp
end Go.Sw.FL

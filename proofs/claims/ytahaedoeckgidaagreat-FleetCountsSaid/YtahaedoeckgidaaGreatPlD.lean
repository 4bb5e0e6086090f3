/- The plain law: what an expert makes; the greatest two; shares; who is chosen. -/
import Derived.Test.YtahaedoeckgidaaGreatPlC
set_option linter.unusedVariables false
set_option linter.unusedSimpArgs false
namespace Go.Sw.FL
theorem matB_rect {m : List (List Int)} {r : Int} {c : Nat} (h : matB m r (c : Int) = true) : (m.length : Int) = r ∧ rect m c := by
 simp only [matB, Bool.and_eq_true, beq_iff_eq, List.all_eq_true, rowB] at h
 exact ⟨h.1, fun l hl => by have := (h.2 l hl).1; omega⟩
def run (x : ApiExpert) (v : List Int) : List Int := app x.Out (vrelu (app x.In v))
theorem app_len (m : List (List Int)) (v : List Int) : (app m v).length = m.length := by simp [app]
theorem vrelu_len (v : List Int) : (vrelu v).length = v.length := by simp [vrelu]
theorem expB_d {x : ApiExpert} {d : Nat} (h : expB x (d : Int) = true) : d ≤ 8 ∧ x.In.length ≤ 8 ∧ rect x.In d ∧ x.Out.length = d ∧ rect x.Out x.In.length := by
 simp only [expB, Bool.and_eq_true, decide_eq_true_eq] at h
 have h1 := matB_rect h.2.1
 have h2 := matB_rect h.2.2
 exact ⟨by omega, by omega, h1.2, by omega, h2.2⟩
theorem run_len {x : ApiExpert} {v : List Int} (h : expB x (v.length : Int) = true) : (run x v).length = v.length := by
 have := expB_d h
 simp [run, app_len]; omega
theorem run_ok (x : ApiExpert) (v : List Int) : ∀ n ∈ run x v, ok n := fun n hn => by
 obtain ⟨l, _, rfl⟩ := List.mem_map.1 hn
 exact dot_ok _ _
theorem run_eq {x : ApiExpert} {v : List Int} (h : expB x (v.length : Int) = true) : expert_Run x v = some (run x v, true) := by
 obtain ⟨h1, h2, h3, h4, h5⟩ := expB_d h
 unfold expert_Run
 rw [expR_eq, h]
 simp only [Option.bind_some, Bool.not_true, cond_false]
 rw [app_eq h3 (by omega)]
 simp only [Option.bind_some]
 rw [vrelu_eq _ (by rw [app_len]; omega)]
 simp only [Option.bind_some]
 rw [app_eq (by rw [vrelu_len, app_len]; exact h5) (by omega)]
 rfl
theorem rrun_eq {x : ApiExpert} {v : List Int} (h : expB x (v.length : Int) = true) : switchboardref11_Run x v = some (run x v) := by
 obtain ⟨h1, h2, h3, h4, h5⟩ := expB_d h
 unfold switchboardref11_Run
 rw [rapp_eq h3 (by omega) (by omega)]
 simp only [Option.bind_some]
 rw [rvrelu_eq _ (by rw [app_len]; omega)]
 simp only [Option.bind_some]
 rw [rapp_eq (by rw [vrelu_len, app_len]; exact h5) (by omega) (by rw [vrelu_len, app_len]; omega)]
 rfl
/-! ### the greatest two -/
def gv (v : List Int) (i : Nat) : Int := v.getD i 0
def beats (v : List Int) (i j : Nat) : Prop := gv v j < gv v i ∨ (gv v i = gv v j ∧ i < j)
instance (v : List Int) (i j : Nat) : Decidable (beats v i j) := by unfold beats; infer_instance
def isBest (v : List Int) (n : Nat) (but b : Int) : Prop := (b = -1 ∧ ∀ j : Nat, j < n → (j : Int) = but) ∨ ∃ k : Nat, b = (k : Int) ∧ k < n ∧ (k : Int) ≠ but ∧ ∀ j : Nat, j < n → (j : Int) ≠ but → j ≠ k → beats v k j
theorem gv_at {v : List Int} {i : Nat} (h : i < v.length) : gv v i = v[i] := by simp [gv, h]
theorem beside_l1 (v : List Int) (but : Int) : ∀ (suf : List Int) (i : Nat) (b : Int), v.drop i = suf → i ≤ v.length → isBest v i but b → ∃ b', top_beside_l1 v but suf i b = some b' ∧ isBest v v.length but b'
 | [], i, b, hd, hi, hb => ⟨b, by rw [top_beside_l1], by
   have : v.length ≤ i := by rw [List.drop_eq_nil_iff] at hd; exact hd
   have e : i = v.length := by omega
   rw [← e]; exact hb⟩
 | x :: suf, i, b, hd, hi, hb => by
  have hlt : i < v.length := by
   rcases Nat.lt_or_ge i v.length with h | h
   ·exact h
   ·rw [List.drop_eq_nil_iff.2 h] at hd; cases hd
  have hx : gv v i = x := by
   rw [List.drop_eq_getElem_cons hlt] at hd
   injection hd with h1 h2
   rw [gv_at hlt]; exact h1
  have hnx : v.drop (i + 1) = suf := by rw [List.drop_eq_getElem_cons hlt] at hd; injection hd
  rw [top_beside_l1]
  by_cases hbut : (i : Int) = but
  ·have e : ((i : Int) != but) = false := by simp [hbut]
   rw [e, cond_false]
   refine beside_l1 v but suf (i + 1) b hnx (by omega) ?_
   rcases hb with ⟨rfl, h⟩ | ⟨k, rfl, h1, h2, h3⟩
   ·refine .inl ⟨rfl, fun j hj => ?_⟩
    by_cases hji : j = i
    ·subst hji; exact hbut
    ·exact h j (by omega)
   ·refine .inr ⟨k, rfl, by omega, h2, fun j hj hjb hjk => ?_⟩
    by_cases hji : j = i
    ·subst hji; exact absurd hbut hjb
    ·exact h3 j (by omega) hjb hjk
  ·have e : ((i : Int) != but) = true := by simpa using hbut
   rw [e, cond_true]
   rcases hb with ⟨rfl, h⟩ | ⟨k, rfl, h1, h2, h3⟩
   ·refine (fun h => ?_) (beside_l1 v but suf (i + 1) (i : Int) hnx (by omega) (.inr ⟨i, rfl, by omega, hbut, fun j hj hjb hji => absurd (h j (by omega)) hjb⟩))
    obtain ⟨b', e1, e2⟩ := h
    exact ⟨b', bif_t (by omega) e1, e2⟩
   ·have hk : k < v.length := by omega
    by_cases hlt2 : gv v k < gv v i
    ·obtain ⟨b', e1, e2⟩ := beside_l1 v but suf (i + 1) (i : Int) hnx (by omega) (.inr ⟨i, rfl, by omega, hbut, fun j hj hjb hji => by
      by_cases hjk : j = k
      ·subst hjk; exact .inl hlt2
      ·rcases h3 j (by omega) hjb hjk with h4 | h4
       ·exact .inl (by omega)
       ·exact .inl (by omega)⟩)
     refine ⟨b', bif_f (by omega) (cb_t (inb_nat hk) (bif_t ?_ e1)), e2⟩
     rw [at0_nat hk, ← gv_at hk, ← hx]; exact hlt2
    ·obtain ⟨b', e1, e2⟩ := beside_l1 v but suf (i + 1) (k : Int) hnx (by omega) (.inr ⟨k, rfl, by omega, h2, fun j hj hjb hjk => by
      by_cases hji : j = i
      ·subst hji
       by_cases he : gv v k = gv v j
       ·exact .inr ⟨he, by omega⟩
       ·exact .inl (by omega)
      ·exact h3 j (by omega) hjb hjk⟩)
     refine ⟨b', bif_f (by omega) (cb_t (inb_nat hk) (bif_f ?_ e1)), e2⟩
     rw [at0_nat hk, ← gv_at hk, ← hx]; exact hlt2
theorem beside_eq (v : List Int) (but : Int) : ∃ b, top_beside v but = some b ∧ isBest v v.length but b := by
 obtain ⟨b, e, h⟩ := beside_l1 v but v 0 (-1) rfl (by omega) (.inl ⟨rfl, fun j hj => by omega⟩)
 exact ⟨b, by unfold top_beside; rw [e]; rfl, h⟩
def cntR (p : Nat → Bool) : Nat → Nat
 | 0 => 0
 | n + 1 => cntR p n + (bif p n then 1 else 0)
theorem cnt_le (p : Nat → Bool) : ∀ n, cntR p n ≤ n
 | 0 => by simp [cntR]
 | n + 1 => by have := cnt_le p n; rw [cntR]; cases p n <;> simp <;> omega
theorem cnt_zero {p : Nat → Bool} : ∀ {n}, (∀ j, j < n → p j = false) → cntR p n = 0
 | 0, _ => rfl
 | n + 1, h => by rw [cntR, cnt_zero fun j hj => h j (by omega), h n (by omega)]; rfl
theorem cnt_pos {p : Nat → Bool} : ∀ {n k}, k < n → p k = true → 1 ≤ cntR p n
 | 0, k, h, _ => by omega
 | n + 1, k, h, hp => by
  rw [cntR]
  by_cases hk : k = n
  ·subst hk; rw [hp]; simp
  ·have := cnt_pos (n := n) (k := k) (by omega) hp; omega
theorem cnt_one {p : Nat → Bool} : ∀ {n k}, k < n → p k = true → (∀ j, j < n → j ≠ k → p j = false) → cntR p n = 1
 | 0, k, h, _, _ => by omega
 | n + 1, k, h, hp, ho => by
  rw [cntR]
  by_cases hk : k = n
  ·subst hk; rw [hp, cnt_zero fun j hj => ho j (by omega) (by omega)]; rfl
  ·rw [cnt_one (n := n) (k := k) (by omega) hp fun j hj hjk => ho j (by omega) hjk, ho n (by omega) (fun e => hk e.symm)]; rfl
theorem cnt_two {p : Nat → Bool} : ∀ {n k l}, k < n → l < n → k ≠ l → p k = true → p l = true → 2 ≤ cntR p n
 | 0, k, l, h, _, _, _, _ => by omega
 | n + 1, k, l, h, h', hne, hp, hl => by
  rw [cntR]
  by_cases hk : k = n
  ·subst hk; rw [hp]; have := cnt_pos (p := p) (n := k) (k := l) (by omega) hl; simp; omega
  ·by_cases hl2 : l = n
   ·subst hl2; rw [hl]; have := cnt_pos (p := p) (n := l) (k := k) (by omega) hp; simp; omega
   ·have := cnt_two (n := n) (k := k) (l := l) (by omega) (by omega) hne hp hl; omega
def rk (v : List Int) (a : Nat) : Nat := cntR (fun j => decide (beats v j a)) v.length
theorem rank_l1 (v : List Int) (a : Nat) (ha : a < v.length) (hl : v.length ≤ 100000) : ∀ (fuel i : Nat), i ≤ v.length → v.length - i < fuel → ∃ z, switchboardref04_Rank_l1 v (a : Int) fuel ((cntR (fun j => decide (beats v j a)) i : Nat) : Int) (i : Int) = some ((rk v a : Int), z)
 | 0, i, _, h => by omega
 | fuel + 1, i, hi, h => by
  rw [switchboardref04_Rank_l1]
  by_cases he : i = v.length
  ·refine ⟨(i : Int), bif_f (by omega) ?_⟩
   rw [he]; rfl
  ·have hlt : i < v.length := by omega
   have hc := cnt_le (fun j => decide (beats v j a)) i
   obtain ⟨z, hz⟩ := rank_l1 v a ha hl fuel (i + 1) (by omega) (by omega)
   refine ⟨z, bif_t (by omega) (cb_t (inb_nat hlt) (cb_t (inb_nat ha) ?_))⟩
   rw [cntR] at hz
   rw [at0_nat ha, at0_nat hlt, ← gv_at ha, ← gv_at hlt]
   by_cases h1 : gv v a < gv v i
   ·have hb : decide (beats v i a) = true := decide_eq_true (.inl h1)
    rw [hb] at hz
    refine bif_t h1 ?_
    rw [i64s _ (by omega), i64s i (by omega)]; exact hz
   ·refine bif_f h1 (cb_t (inb_nat hlt) (cb_t (inb_nat ha) ?_))
    by_cases h2 : gv v i = gv v a ∧ i < a
    ·have hb : decide (beats v i a) = true := decide_eq_true (.inr h2)
     rw [hb] at hz
     refine cb_t (by simp [h2.1]; omega) ?_
     rw [i64s _ (by omega), i64s i (by omega)]; exact hz
    ·have hb : decide (beats v i a) = false := decide_eq_false (by rintro (h3 | h3); exact h1 h3; exact h2 h3)
     rw [hb] at hz
     refine cb_f ?_ ?_
     ·rw [Bool.and_eq_false_iff]
      by_cases h4 : gv v i = gv v a
      ·exact .inr (decide_eq_false (by omega))
      ·exact .inl (by simpa using h4)
     ·rw [i64s i (by omega)]; exact hz
theorem rank_eq {v : List Int} {a : Nat} (ha : a < v.length) (hl : v.length ≤ 100000) : switchboardref04_Rank v (a : Int) = some (rk v a : Int) := by
 obtain ⟨z, hz⟩ := rank_l1 v a ha hl FUEL 0 (by omega) (by unfold FUEL; omega)
 unfold switchboardref04_Rank
 exact bd_s hz rfl
theorem of_l1 (v : List Int) (r : Nat) (hl : v.length ≤ 100000) : ∀ (fuel i : Nat), i ≤ v.length → v.length - i < fuel → ((∃ k, i ≤ k ∧ k < v.length ∧ rk v k = r ∧ (∀ j, i ≤ j → j < k → rk v j ≠ r) ∧ switchboardref04_Of_l1 v (r : Int) fuel (i : Int) = some (.ret (k : Int))) ∨ ((∀ j, i ≤ j → j < v.length → rk v j ≠ r) ∧ ∃ z, switchboardref04_Of_l1 v (r : Int) fuel (i : Int) = some (.out z)))
 | 0, i, _, h => by omega
 | fuel + 1, i, hi, h => by
  rw [switchboardref04_Of_l1]
  by_cases he : i = v.length
  ·refine .inr ⟨fun j h1 h2 => by omega, (i : Int), bif_f (by omega) rfl⟩
  ·have hlt : i < v.length := by omega
   have hlt' : (i : Int) < (v.length : Int) := by omega
   by_cases hr : rk v i = r
   ·refine .inl ⟨i, by omega, hlt, hr, fun j h1 h2 => by omega, bif_t hlt' (bd_s (rank_eq hlt hl) (cb_t (by simp [hr]) rfl))⟩
   ·have hne : (((rk v i : Nat) : Int) == (r : Int)) = false := by rw [beq_eq_false_iff_ne]; omega
    rcases of_l1 v r hl fuel (i + 1) (by omega) (by omega) with ⟨k, h1, h2, h3, h4, h5⟩ | ⟨h1, z, h2⟩
    ·refine .inl ⟨k, by omega, h2, h3, fun j hj hk => ?_, bif_t hlt' (bd_s (rank_eq hlt hl) (cb_f hne ?_))⟩
     ·by_cases hji : j = i
      ·subst hji; exact hr
      ·exact h4 j (by omega) hk
     ·rw [i64s i (by omega)]; exact h5
    ·refine .inr ⟨fun j hj hk => ?_, z, bif_t hlt' (bd_s (rank_eq hlt hl) (cb_f hne ?_))⟩
     ·by_cases hji : j = i
      ·subst hji; exact hr
      ·exact h1 j (by omega) hk
     ·rw [i64s i (by omega)]; exact h2
theorem not_beats {v : List Int} {i j : Nat} (h : beats v i j) (hne : i ≠ j) : ¬ beats v j i := by
 unfold beats at *; omega
/-- The reference's answer is the one place of this rank. -/
theorem of_eq {v : List Int} {r k : Nat} (hl : v.length ≤ 100000) (hk : k < v.length) (hr : rk v k = r) (hu : ∀ j, j < v.length → rk v j = r → j = k) : switchboardref04_Of v (r : Int) = some (k : Int) := by
 unfold switchboardref04_Of
 rcases of_l1 v r hl FUEL 0 (by omega) (by unfold FUEL; omega) with ⟨k', h1, h2, h3, h4, h5⟩ | ⟨h1, z, h2⟩
 ·have := hu k' h2 h3
  subst this
  exact bd_s h5 rfl
 ·exact absurd hr (h1 k (by omega) hk)
theorem of_none {v : List Int} {r : Nat} (hl : v.length ≤ 100000) (hn : ∀ j, j < v.length → rk v j ≠ r) : switchboardref04_Of v (r : Int) = some (-1) := by
 unfold switchboardref04_Of
 rcases of_l1 v r hl FUEL 0 (by omega) (by unfold FUEL; omega) with ⟨k', h1, h2, h3, h4, h5⟩ | ⟨h1, z, h2⟩
 ·exact absurd h3 (hn k' h2)
 ·exact bd_s h2 rfl
theorem two_eq {v : List Int} (hn : 0 < v.length) (hl : v.length ≤ 100000) : ∃ (a : Nat) (b : Int), top_Two v = some ((a : Int), b) ∧ a < v.length ∧ (b = -1 ∨ ∃ k : Nat, b = (k : Int) ∧ k < v.length) ∧ switchboardref04_Of v 0 = some (a : Int) ∧ switchboardref04_Of v 1 = some b := by
 obtain ⟨a', e1, h1⟩ := beside_eq v (-1)
 rcases h1 with ⟨_, h1⟩ | ⟨a, rfl, ha, _, hA⟩
 ·have := h1 0 hn; omega
 have hA' : ∀ j, j < v.length → j ≠ a → beats v a j := fun j hj hja => hA j hj (by omega) hja
 obtain ⟨b, e2, h2⟩ := beside_eq v (a : Int)
 have r0 : rk v a = 0 := cnt_zero fun j hj => decide_eq_false (by
  by_cases hja : j = a
  ·subst hja; unfold beats; omega
  ·exact not_beats (hA' j hj hja) (fun e => hja e.symm))
 have rp : ∀ j, j < v.length → j ≠ a → 1 ≤ rk v j := fun j hj hja => cnt_pos ha (decide_eq_true (hA' j hj hja))
 have o0 : switchboardref04_Of v 0 = some (a : Int) := of_eq (r := 0) hl ha r0 fun j hj hr => Classical.byContradiction fun hne => by have := rp j hj hne; omega
 have ht : top_Two v = some ((a : Int), b) := by unfold top_Two top_Best; rw [e1]; simp only [Option.bind_some, e2]
 rcases h2 with ⟨rfl, h2⟩ | ⟨k, rfl, hk, hka, hK⟩
 ·refine ⟨a, -1, ht, ha, .inl rfl, o0, of_none (r := 1) hl fun j hj hr => ?_⟩
  have : j = a := by have := h2 j hj; omega
  subst this; omega
 ·have hka' : k ≠ a := fun e => hka (by rw [e])
  have hK' : ∀ j, j < v.length → j ≠ a → j ≠ k → beats v k j := fun j hj hja hjk => hK j hj (by omega) hjk
  have r1 : rk v k = 1 := cnt_one ha (decide_eq_true (hA' k hk hka')) fun j hj hja => decide_eq_false (by
   by_cases hjk : j = k
   ·subst hjk; unfold beats; omega
   ·exact not_beats (hK' j hj hja hjk) (fun e => hjk e.symm))
  refine ⟨a, k, ht, ha, .inr ⟨k, rfl, hk⟩, o0, of_eq (r := 1) hl hk r1 fun j hj hr => Classical.byContradiction fun hne => ?_⟩
  by_cases hja : j = a
  ·subst hja; omega
  ·have := cnt_two (p := fun i => decide (beats v i j)) (n := v.length) ha hk (fun e => hka' e.symm) (decide_eq_true (hA' j hj hja)) (decide_eq_true (hK' j hj hja hne))
   have e : rk v j = cntR (fun i => decide (beats v i j)) v.length := rfl
   omega
end Go.Sw.FL

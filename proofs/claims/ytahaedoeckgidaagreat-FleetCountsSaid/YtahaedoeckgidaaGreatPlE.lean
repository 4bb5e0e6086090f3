/- The plain law: shares; who is chosen; slots; parts. -/
import Derived.Test.YtahaedoeckgidaaGreatPlD
set_option linter.unusedVariables false
set_option linter.unusedSimpArgs false
namespace Go.Sw.FL
/-! ### shares -/
theorem part_eq {a : Int} (h : ok a) : switchboardref05_part a = some (iMax (hd a) 0 + 1) := by
 rw [hd_id h]
 unfold switchboardref05_part iMax
 unfold ok at h
 by_cases h1 : a < 0
 ·refine bif_t h1 ?_; rw [if_pos h1]; rfl
 ·refine bif_f h1 (bif_f (by omega) ?_)
  rw [if_neg h1, i64w_eq (by omega) (by omega)]
theorem share_l1 (x y : Int) (hx : 1 ≤ x ∧ x ≤ 2147483648) (hy : 1 ≤ y ∧ y ≤ 2147483648) : ∀ (k fuel : Nat) (q left : Int), k ≤ 16 → k < fuel → 0 ≤ left → left < x + y → 0 ≤ q → q ≤ 65536 → q * (x + y) + left = x * 2 ^ (16 - k) →
  ∃ z z2, switchboardref05_Share_l1 x y fuel q left ((16 - k : Nat) : Int) = some (z, z2) ∧ ∃ l, 0 ≤ l ∧ l < x + y ∧ z * (x + y) + l = x * 65536
 | k, 0, q, left, _, h, _, _, _, _, _ => by omega
 | 0, fuel + 1, q, left, _, _, h0, h1, hq, hq2, he => by
  rw [switchboardref05_Share_l1]
  exact ⟨q, _, bif_f (by omega) rfl, left, h0, h1, by simpa using he⟩
 | k + 1, fuel + 1, q, left, hk, hf, h0, h1, hq, hq2, he => by
  rw [switchboardref05_Share_l1]
  have e1 : i64w (x + y) = x + y := i64w_eq (by omega) (by omega)
  have e2 : i64w (2 * left) = 2 * left := i64w_eq (by omega) (by omega)
  have e3 : i64w (2 * q) = 2 * q := i64w_eq (by omega) (by omega)
  have e4 : i64w (2 * q + 1) = 2 * q + 1 := i64w_eq (by omega) (by omega)
  have e5 : i64w (((16 - (k + 1) : Nat) : Int) + 1) = ((16 - k : Nat) : Int) := by rw [i64w_eq (by omega) (by omega)]; omega
  have hp : x * 2 ^ (16 - k) = 2 * (x * 2 ^ (16 - (k + 1))) := by
   rw [show 16 - k = (16 - (k + 1)) + 1 from by omega, Int.pow_succ, ← Int.mul_assoc, Int.mul_comm]
  have hb : x * 2 ^ (16 - k) ≤ x * 65536 := by
   refine Int.mul_le_mul_of_nonneg_left ?_ (by omega)
   have : (2 : Nat) ^ (16 - k) ≤ 2 ^ 16 := Nat.pow_le_pow_right (by omega) (by omega)
   have h2 : ((2 ^ (16 - k) : Nat) : Int) ≤ ((2 ^ 16 : Nat) : Int) := by omega
   simpa using h2
  have hd : q * (x + y) * 2 = 2 * q * (x + y) := by rw [Int.mul_comm, ← Int.mul_assoc]
  have hlt : (((16 - (k + 1) : Nat) : Int)) < 16 := by omega
  by_cases hc : x + y ≤ 2 * left
  ·have e6 : i64w (2 * left - (x + y)) = 2 * left - (x + y) := i64w_eq (by omega) (by omega)
   have heq : (2 * q + 1) * (x + y) + (2 * left - (x + y)) = x * 2 ^ (16 - k) := by
    have hd' : 2 * q * (x + y) = 2 * (q * (x + y)) := Int.mul_assoc 2 q (x + y)
    have hd2 : (2 * q + 1) * (x + y) = 2 * q * (x + y) + 1 * (x + y) := Int.add_mul _ _ _
    rw [hp, ← he, hd2, hd', Int.one_mul]
    generalize q * (x + y) = m; omega
   have hq3 : 2 * q + 1 ≤ 65536 := by
    refine Classical.byContradiction fun hn => ?_
    have h3 : 65537 * (x + y) ≤ (2 * q + 1) * (x + y) := Int.mul_le_mul_of_nonneg_right (by omega) (by omega)
    omega
   obtain ⟨z, z2, h2, h3⟩ := share_l1 x y hx hy k fuel (2 * q + 1) (2 * left - (x + y)) (by omega) (by omega) (by omega) (by omega) (by omega) hq3 heq
   refine ⟨z, z2, bif_t hlt ?_, h3⟩
   rw [e1, e2]
   refine bif_t hc ?_
   rw [e3, e4, e6, e5]; exact h2
  ·have heq : 2 * q * (x + y) + 2 * left = x * 2 ^ (16 - k) := by
    have hd' : 2 * q * (x + y) = 2 * (q * (x + y)) := Int.mul_assoc 2 q (x + y)
    rw [hp, ← he, hd']
    generalize q * (x + y) = m; omega
   have hq3 : 2 * q ≤ 65536 := by
    refine Classical.byContradiction fun hn => ?_
    have h3 : 65537 * (x + y) ≤ (2 * q) * (x + y) := Int.mul_le_mul_of_nonneg_right (by omega) (by omega)
    omega
   obtain ⟨z, z2, h2, h3⟩ := share_l1 x y hx hy k fuel (2 * q) (2 * left) (by omega) (by omega) (by omega) (by omega) (by omega) hq3 heq
   refine ⟨z, z2, bif_t hlt ?_, h3⟩
   rw [e1, e2]
   refine bif_f hc ?_
   rw [e3, e5]; exact h2
theorem shares_eq {a b : Int} (ha : ok a) (hb : ok b) : ∃ s, share_Shares a b = some (s, 65536 - s) ∧ switchboardref05_Share a b = some s ∧ 0 ≤ s ∧ s ≤ 65536 := by
 obtain ⟨x, hx⟩ : ∃ x, x = iMax (hd a) 0 + 1 := ⟨_, rfl⟩
 obtain ⟨y, hy⟩ : ∃ y, y = iMax (hd b) 0 + 1 := ⟨_, rfl⟩
 have bx : 1 ≤ x ∧ x ≤ 2147483648 := by have := hd_ok a; unfold ok at this; rw [hx]; unfold iMax; split <;> omega
 have by' : 1 ≤ y ∧ y ≤ 2147483648 := by have := hd_ok b; unfold ok at this; rw [hy]; unfold iMax; split <;> omega
 obtain ⟨z, z2, h1, l, h2, h3, h4⟩ := share_l1 x y bx by' 16 FUEL 0 x (by omega) (by unfold FUEL; omega) (by omega) (by omega) (by omega) (by omega) (by simp)
 have hdiv : (x * 65536) / (x + y) = z := by
  have : x * 65536 = l + z * (x + y) := by omega
  rw [this, Int.add_mul_ediv_right _ _ (by omega), Int.ediv_eq_zero_of_lt h2 h3, Int.zero_add]
 have hz0 : 0 ≤ z := by rw [← hdiv]; exact Int.ediv_nonneg (by omega) (by omega)
 have hz1 : z ≤ 65536 := by
  refine Classical.byContradiction fun hn => ?_
  have h5 : 65537 * (x + y) ≤ z * (x + y) := Int.mul_le_mul_of_nonneg_right (by omega) (by omega)
  omega
 have ht : Int.tdiv (x * 65536) (x + y) = z := by rw [Int.tdiv_eq_ediv_of_nonneg (by omega)]; exact hdiv
 refine ⟨z, ?_, ?_, hz0, hz1⟩
 ·unfold share_Shares
  simp only [hold_eq, Option.bind_some]
  have m1 := hd_ok a
  have m2 := hd_ok b
  unfold ok at m1 m2
  have w1 : i64w (iMax (hd a) 0 + 1) = x := by rw [← hx]; exact i64w_eq (by omega) (by omega)
  have w2 : i64w (iMax (hd b) 0 + 1) = y := by rw [← hy]; exact i64w_eq (by omega) (by omega)
  have w3 : i64w (x + y) = x + y := i64w_eq (by omega) (by omega)
  have w4 : i64w (x * 65536) = x * 65536 := i64w_eq (by omega) (by omega)
  have w5 : i64w z = z := i64w_eq (by omega) (by omega)
  have w6 : i64w (65536 - z) = 65536 - z := i64w_eq (by omega) (by omega)
  rw [w1, w2, w3, w4, ht, w5, w6]
  exact cb_t (by simp; omega) rfl
 ·unfold switchboardref05_Share
  rw [part_eq ha]
  simp only [Option.bind_some, part_eq hb]
  rw [← hx, ← hy]
  exact bd_s h1 rfl
/-! ### who is chosen -/
def gateOk (E : Nat) (c : GateChoice) : Prop := (0 ≤ c.First ∧ c.First < E) ∧ (-1 ≤ c.Second ∧ c.Second < E)
theorem choose_eq {g : List (List Int)} {v : List Int} (hr : rect g v.length) (h0 : 0 < g.length) (hl : g.length ≤ 100000) (hv : v.length ≤ 100000) : ∃ c, gate_Choose g v = some (c, true) ∧ switchboardref13_Choose g v = some (c, true) ∧ gateOk g.length c := by
 have hal : (app g v).length = g.length := app_len g v
 obtain ⟨a, b, h1, h2, h3, h4, h5⟩ := two_eq (v := app g v) (by omega) (by omega)
 have hok : ∀ (i : Nat) (h : i < (app g v).length), ok (app g v)[i] := fun i h => by
  obtain ⟨l, _, hl⟩ := List.mem_map.1 (List.getElem_mem h)
  rw [← hl]; exact dot_ok _ _
 have hne : ((g.length : Int) == 0) = false := by simp; intro h; rw [h] at h0; simp at h0
 have hne2 : (((app g v).length : Int) == 0) = false := by rw [hal]; exact hne
 rcases h3 with rfl | ⟨k, rfl, hk⟩
 ·refine ⟨⟨a, -1, 65536, 0⟩, ?_, ?_, ⟨⟨by simp, by simp; omega⟩, by simp; omega⟩⟩
  ·unfold gate_Choose
   rw [app_eq hr hl]
   simp only [Option.bind_some, Bool.not_true, Bool.false_or, hne, cond_false, h1]
   exact bif_f (by decide) rfl
  ·unfold switchboardref13_Choose
   rw [rapp_eq hr hl hv]
   simp only [Option.bind_some, Bool.not_true, Bool.false_or, hne2, cond_false, h4, h5]
   refine bif_f (by decide) ?_
   rfl
 ·obtain ⟨s, s1, s2, s3, s4⟩ := shares_eq (hok a h2) (hok k hk)
  refine ⟨⟨a, k, s, 65536 - s⟩, ?_, ?_, ⟨⟨by simp, by simp; omega⟩, by simp; omega⟩⟩
  ·unfold gate_Choose
   rw [app_eq hr hl]
   simp only [Option.bind_some, Bool.not_true, Bool.false_or, hne, cond_false, h1]
   refine bif_t (by omega) (cb_t (inb_nat h2) (cb_t (inb_nat hk) ?_))
   rw [at0_nat h2, at0_nat hk, s1]; rfl
  ·unfold switchboardref13_Choose
   rw [rapp_eq hr hl hv]
   simp only [Option.bind_some, Bool.not_true, Bool.false_or, hne2, cond_false, h4, h5]
   refine bif_t (by omega) (cb_t (inb_nat h2) (cb_t (inb_nat hk) ?_))
   rw [at0_nat h2, at0_nat hk, s2]
   simp only [Option.bind_some]
   rw [i64w_eq (x := 65536 - s) (by omega) (by omega)]
end Go.Sw.FL

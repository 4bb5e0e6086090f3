/- The plain law: slots; parts. -/
import Derived.Test.YtahaedoeckgidaaGreatPlE
set_option linter.unusedVariables false
set_option linter.unusedSimpArgs false
namespace Go.Sw.FL
def bump (f : Int → Nat) (x : Int) : Int → Nat := fun y => f y + (if y = x then 1 else 0)
def sl (E cap : Int) (n : Nat) (x : Int) : Int := if 0 ≤ x ∧ x < E ∧ (n : Int) < cap then (n : Int) else -1
theorem mget_put {d : Int} : ∀ (m : List (Int × Int)) (k v x : Int), mget d (mput m k v) x = if x = k then v else mget d m x
 | [], k, v, x => by
  simp only [mput, mget]
  by_cases h : k = x
  ·subst h; simp
  ·have : (k == x) = false := by simpa using h
   rw [this, if_neg (fun e => h e.symm)]; rfl
 | (a, u) :: m, k, v, x => by
  simp only [mput]
  by_cases hak : a = k
  ·subst hak
   simp only [BEq.rfl, cond_true, mget]
   by_cases h : a = x
   ·subst h; simp
   ·have : (a == x) = false := by simpa using h
    rw [this, if_neg (fun e => h e.symm)]; rfl
  ·have hk : (a == k) = false := by simpa using hak
   rw [hk, cond_false]
   simp only [mget]
   by_cases h : a = x
   ·subst h; simp [hak]
   ·have : (a == x) = false := by simpa using h
    rw [this, cond_false, cond_false]; exact mget_put m k v x
def GI (E cap : Int) (f : Int → Nat) (g : List (Int × Int)) : Prop := ∀ y, 0 ≤ y → y < E → mget 0 g y = if (f y : Int) < cap then (f y : Int) else cap
/-- one want: its slot, and what is given then -/
theorem want_step {E cap : Int} {f : Int → Nat} {g : List (Int × Int)} (h : GI E cap f g) (x : Int) : ∃ g', GI E cap (bump f x) g' ∧
  ((sl E cap (f x) x = -1 ∧ g' = g ∧ (x < 0 ∨ E ≤ x ∨ (0 ≤ x ∧ x < E ∧ cap ≤ mget 0 g x))) ∨ (sl E cap (f x) x = (f x : Int) ∧ 0 ≤ x ∧ x < E ∧ ¬ cap ≤ mget 0 g x ∧ mget 0 g x = (f x : Int) ∧ g' = mput g x ((f x : Int) + 1))) := by
 by_cases hv : 0 ≤ x ∧ x < E
 ·have hx := h x hv.1 hv.2
  by_cases hc : (f x : Int) < cap
  ·rw [if_pos hc] at hx
   refine ⟨mput g x ((f x : Int) + 1), fun y h0 h1 => ?_, .inr ⟨by unfold sl; rw [if_pos ⟨hv.1, hv.2, hc⟩], hv.1, hv.2, by omega, hx, rfl⟩⟩
   rw [mget_put]
   by_cases hy : y = x
   ·subst hy; simp only [bump, if_true]; split <;> omega
   ·rw [if_neg hy, h y h0 h1]; simp [bump, hy]
  ·rw [if_neg hc] at hx
   refine ⟨g, fun y h0 h1 => ?_, .inl ⟨by unfold sl; rw [if_neg (fun hh => hc hh.2.2)], rfl, .inr (.inr ⟨hv.1, hv.2, by omega⟩)⟩⟩
   rw [h y h0 h1]
   by_cases hy : y = x
   ·subst hy; simp only [bump, if_true]; split <;> split <;> omega
   ·simp [bump, hy]
 ·refine ⟨g, fun y h0 h1 => ?_, .inl ⟨by unfold sl; rw [if_neg (fun hh => hv ⟨hh.1, hh.2.1⟩)], rfl, by omega⟩⟩
  rw [h y h0 h1]
  have hy : ¬ y = x := fun e => hv (e ▸ ⟨h0, h1⟩)
  simp [bump, hy]
theorem want_l2 {E cap : Int} (hcap : cap ≤ 1000000) {f : Int → Nat} {g : List (Int × Int)} (h : GI E cap f g) (w v : List Int) (k rest : Nat) (hk : k < 2) : ∃ g', GI E cap (bump f (at0 w (k : Int))) g' ∧
  slots_Assign_l2 E cap w (rest + 1) k v g = slots_Assign_l2 E cap w rest (k + 1) (if sl E cap (f (at0 w (k : Int))) (at0 w (k : Int)) = -1 then v else v.set k (sl E cap (f (at0 w (k : Int))) (at0 w (k : Int)))) g' := by
 obtain ⟨g', h1, h2⟩ := want_step h (at0 w (k : Int))
 refine ⟨g', h1, ?_⟩
 rw [slots_Assign_l2]
 refine cb_t (inb_nat (by omega)) ?_
 rcases h2 with ⟨e1, rfl, hb⟩ | ⟨e1, a1, a2, a3, a4, rfl⟩
 ·rw [if_pos e1]
  rcases hb with hb | hb | ⟨b1, b2, b3⟩
  ·exact cb_t (by simp [hb]) rfl
  ·exact cb_t (by simp [hb]) rfl
  ·refine cb_f (by simp; omega) (bif_t b3 rfl)
 ·have hne : ¬ sl E cap (f (at0 w (k : Int))) (at0 w (k : Int)) = -1 := by rw [e1]; omega
  rw [if_neg hne, e1]
  refine cb_f (by simp; omega) (bif_f a3 (cb_t (inb_nat (by omega)) ?_))
  rw [a4, i64w_eq (by omega) (by omega)]
  rfl
def rowS (E cap : Int) (f : Int → Nat) (w : List Int) : List Int := [sl E cap (f (at0 w 0)) (at0 w 0), sl E cap (bump f (at0 w 0) (at0 w 1)) (at0 w 1)]
theorem want_row {E cap : Int} (hcap : cap ≤ 1000000) {f : Int → Nat} {g : List (Int × Int)} (h : GI E cap f g) (w : List Int) : ∃ g', GI E cap (bump (bump f (at0 w 0)) (at0 w 1)) g' ∧ slots_Assign_l2 E cap w 2 0 [(-1), (-1)] g = some (rowS E cap f w, g') := by
 obtain ⟨g1, h1, e1⟩ := want_l2 hcap h w [(-1), (-1)] 0 1 (by omega)
 have c0 : ((0 : Nat) : Int) = 0 := rfl
 have c1 : ((1 : Nat) : Int) = 1 := rfl
 rw [c0] at h1 e1
 obtain ⟨g2, h2, e2⟩ := want_l2 hcap h1 w (if sl E cap (f (at0 w 0)) (at0 w 0) = -1 then [(-1), (-1)] else [(-1), (-1)].set 0 (sl E cap (f (at0 w 0)) (at0 w 0))) 1 0 (by omega)
 rw [c1] at h2 e2
 refine ⟨g2, h2, ?_⟩
 rw [e1, e2, slots_Assign_l2]
 unfold rowS
 by_cases a : sl E cap (f (at0 w 0)) (at0 w 0) = -1 <;> by_cases b : sl E cap (bump f (at0 w 0) (at0 w 1)) (at0 w 1) = -1 <;> simp [a, b]
def slotsF (E cap : Int) : (Int → Nat) → List (List Int) → List (List Int)
 | _, [] => []
 | f, w :: ws => rowS E cap f w :: slotsF E cap (bump (bump f (at0 w 0)) (at0 w 1)) ws
theorem assign_l1 {E cap : Int} (hcap : cap ≤ 1000000) : ∀ (ws : List (List Int)) (i : Nat) (acc : List (List Int)) (f : Int → Nat) (g : List (Int × Int)), GI E cap f g → acc.length + ws.length ≤ 1000000 → ∃ z, slots_Assign_l1 E cap ws i acc g = some (acc ++ slotsF E cap f ws, z)
 | [], i, acc, f, g, _, _ => ⟨g, by simp [slots_Assign_l1, slotsF]⟩
 | w :: ws, i, acc, f, g, h, hl => by
  obtain ⟨g', h1, e1⟩ := want_row hcap h w
  obtain ⟨z, hz⟩ := assign_l1 hcap ws (i + 1) (acc ++ [rowS E cap f w]) _ g' h1 (by simp at hl ⊢; omega)
  refine ⟨z, ?_⟩
  rw [slots_Assign_l1]
  refine cb_t rfl (bd_s e1 (cb_t (lim_t (by simp at hl ⊢; omega)) ?_))
  rw [hz]; simp [slotsF]
def f0 : Int → Nat := fun _ => 0
theorem assign_eq {E cap : Int} (h0 : 0 < cap) (hcap : cap ≤ 1000000) {ws : List (List Int)} (hl : ws.length ≤ 100000) : slots_Assign ws E cap = some (slotsF E cap f0 ws) := by
 obtain ⟨z, hz⟩ := assign_l1 (E := E) hcap ws 0 [] f0 [] (fun y _ _ => by simp [mget, f0, h0]) (by simp; omega)
 unfold slots_Assign
 exact bd_s hz (by simp)
/-! ### the reference's slots -/
def uptoF (f : Int → Nat) (ws : List (List Int)) : Int → Nat := ws.foldl (fun f w => bump (bump f (at0 w 0)) (at0 w 1)) f
theorem bump_at (f : Int → Nat) (x y : Int) : bump f x y = f y + (bif x == y then 1 else 0) := by
 unfold bump
 by_cases h : y = x
 ·subst h; simp
 ·have : (x == y) = false := by simp; exact fun e => h e.symm
  rw [this, if_neg h]; rfl
theorem ahead_l2 (W : List (List Int)) (t rank x : Int) (i : Nat) (hi : i < W.length) (f n : Nat) (hn : n ≤ 1000000) : ∃ z, switchboardref14_ahead_l2 W t rank x (i : Int) (f + 3) (n : Int) 0 = some (((n + (bif (at0 W[i] 0 == x) && (decide ((i : Int) < t) || decide (0 < rank)) then 1 else 0) + (bif (at0 W[i] 1 == x) && (decide ((i : Int) < t) || decide (1 < rank)) then 1 else 0) : Nat) : Int), z) := by
 have w0 : i64w ((0 : Int) + 1) = 1 := by decide
 have w1 : i64w ((1 : Int) + 1) = 2 := by decide
 have step : ∀ (m : Nat) (g : Nat) (k k' : Int), k < 2 → inb k 2 = true → i64w (k + 1) = k' → m ≤ 1000005 → switchboardref14_ahead_l2 W t rank x (i : Int) (g + 1) (m : Int) k = switchboardref14_ahead_l2 W t rank x (i : Int) g ((m + (bif (at0 W[i] k == x) && (decide ((i : Int) < t) || decide (k < rank)) then 1 else 0) : Nat) : Int) k' := fun m g k k' hk hk2 hk' hm => by
  rw [switchboardref14_ahead_l2]
  refine bif_t hk (cb_t (inb_nat hi) (cb_t hk2 ?_))
  rw [at0_nat hi, hk']
  cases hb : at0 W[i] k == x with
  | false => simp
  | true =>
   rw [cond_true, Bool.true_and]
   cases hc : decide ((i : Int) < t) || decide (k < rank) with
   | false => simp
   | true => rw [cond_true, i64s m (by omega)]; simp
 refine ⟨2, ?_⟩
 rw [step n (f + 2) 0 1 (by decide) (by decide) w0 (by omega), step _ (f + 1) 1 2 (by decide) (by decide) w1 (by cases (at0 W[i] 0 == x) && (decide ((i : Int) < t) || decide (0 < rank)) <;> simp <;> omega), switchboardref14_ahead_l2]
 exact bif_f (by decide) rfl
theorem ahead_l1 (W : List (List Int)) (t : Nat) (ht : t < W.length) (hl : W.length ≤ 100000) (rank : Int) (hr : rank = 0 ∨ rank = 1) (x : Int) : ∀ (fuel i n : Nat), i ≤ t → t + 1 - i < fuel → n ≤ 2 * i → (uptoF f0 (W.take i)) x = n → ∃ z, switchboardref14_ahead_l1 W (t : Int) rank x fuel (n : Int) (i : Int) = some ((((uptoF f0 (W.take t)) x + (bif (at0 W[t] 0 == x) && decide (0 < rank) then 1 else 0) : Nat) : Int), z)
 | 0, i, n, _, h, _, _ => by omega
 | fuel + 1, i, n, hi, h, hn, hu => by
  rw [switchboardref14_ahead_l1]
  have hiW : i < W.length := by omega
  obtain ⟨z2, hz2⟩ := ahead_l2 W (t : Int) rank x i hiW 999997 n (by omega)
  have hF : FUEL = 999997 + 3 := rfl
  rw [hF]
  by_cases hit : i = t
  ·subst hit
   have hfl : fuel ≠ 0 := by omega
   obtain ⟨fuel', rfl⟩ : ∃ f', fuel = f' + 1 := ⟨fuel - 1, by omega⟩
   refine ⟨((i + 1 : Nat) : Int), bif_t (by omega) (bd_s hz2 ?_)⟩
   simp only []
   rw [i64s i (by omega), switchboardref14_ahead_l1]
   refine bif_f (by omega) ?_
   have e1 : decide ((i : Int) < (i : Int)) = false := by simp
   have e2 : decide ((1 : Int) < rank) = false := by rcases hr with rfl | rfl <;> rfl
   rw [e1, e2, Bool.false_or, Bool.false_or, Bool.and_false, hu]
   rfl
  ·have hlt : i < t := by omega
   have e1 : decide ((i : Int) < (t : Int)) = true := by simp; omega
   have hu2 : (uptoF f0 (W.take (i + 1))) x = n + (bif (at0 W[i] 0 == x) && (decide ((i : Int) < (t : Int)) || decide (0 < rank)) then 1 else 0) + (bif (at0 W[i] 1 == x) && (decide ((i : Int) < (t : Int)) || decide (1 < rank)) then 1 else 0) := by
    rw [List.take_succ_eq_append_getElem hiW, uptoF, List.foldl_append]
    simp only [List.foldl_cons, List.foldl_nil, bump_at]
    have : (List.foldl (fun f w => bump (bump f (at0 w 0)) (at0 w 1)) f0 (List.take i W)) x = n := hu
    rw [this, e1, Bool.true_or, Bool.true_or, Bool.and_true, Bool.and_true]
   obtain ⟨z, hz⟩ := ahead_l1 W t ht hl rank hr x fuel (i + 1) _ (by omega) (by omega) (by
    cases (at0 W[i] 0 == x) && (decide ((i : Int) < (t : Int)) || decide (0 < rank)) <;> cases (at0 W[i] 1 == x) && (decide ((i : Int) < (t : Int)) || decide (1 < rank)) <;> simp <;> omega) hu2
   refine ⟨z, bif_t (by omega) (bd_s hz2 ?_)⟩
   simp only []
   rw [i64s i (by omega)]; exact hz
theorem slot_eq {W : List (List Int)} {t : Nat} (ht : t < W.length) (hl : W.length ≤ 100000) (E cap : Int) : switchboardref14_Slot W E cap (t : Int) 0 = some (sl E cap (uptoF f0 (W.take t) (at0 W[t] 0)) (at0 W[t] 0)) ∧ switchboardref14_Slot W E cap (t : Int) 1 = some (sl E cap (bump (uptoF f0 (W.take t)) (at0 W[t] 0) (at0 W[t] 1)) (at0 W[t] 1)) := by
 have fin : ∀ (n : Nat) (x : Int), (bif ((decide (x < 0)) || (decide (E ≤ x))) || (decide (cap ≤ (n : Int))) then (some (-1)) else (some (n : Int))) = some (sl E cap n x) := fun n x => by
  unfold sl
  by_cases h : 0 ≤ x ∧ x < E ∧ (n : Int) < cap
  ·rw [if_pos h]; exact cb_f (by simp; omega) rfl
  ·rw [if_neg h]
   refine cb_t ?_ rfl
   simp; omega
 constructor
 ·obtain ⟨z, hz⟩ := ahead_l1 W t ht hl 0 (.inl rfl) (at0 W[t] 0) FUEL 0 0 (by omega) (by unfold FUEL; omega) (by omega) rfl
  unfold switchboardref14_Slot switchboardref14_ahead
  refine cb_t (inb_nat ht) (cb_t rfl ?_)
  rw [at0_nat ht]
  refine bd_s (bd_s hz rfl) ?_
  simp only [Int.lt_irrefl, decide_false, Bool.and_false, cond_false, Nat.add_zero]
  exact fin _ _
 ·obtain ⟨z, hz⟩ := ahead_l1 W t ht hl 1 (.inr rfl) (at0 W[t] 1) FUEL 0 0 (by omega) (by unfold FUEL; omega) (by omega) rfl
  unfold switchboardref14_Slot switchboardref14_ahead
  refine cb_t (inb_nat ht) (cb_t rfl ?_)
  rw [at0_nat ht]
  refine bd_s (bd_s hz rfl) ?_
  have e : decide ((0 : Int) < 1) = true := by decide
  rw [e, Bool.and_true, bump_at]
  exact fin _ _
end Go.Sw.FL

/- The plain law: the references' tests. -/
import Derived.Test.YtahaedoeckgidaaGreatPlB
set_option linter.unusedVariables false
set_option linter.unusedSimpArgs false
namespace Go.Sw.FL
def s03 (m : List (List Int)) : Bool := decide ((m.length : Int) ≤ 30) && m.all (fun l => decide ((l.length : Int) ≤ 30))
theorem s03_l1 (m : List (List Int)) : ∀ (fuel i : Nat), i ≤ m.length → i ≤ 30 → 30 - i < fuel → ∃ z, switchboardref03_Small_l1 m fuel (i : Int) = some (bif ((m.take 30).drop i).all (fun l => decide ((l.length : Int) ≤ 30)) then .out z else .ret false)
 | 0, i, _, _, h => by omega
 | fuel + 1, i, hi, h30, h => by
  rw [switchboardref03_Small_l1]
  by_cases hc : i < m.length ∧ i < 30
  ·have hlt := hc.1
   have hlt2 : i < (m.take 30).length := by simp; omega
   have e : (m.take 30).drop i = m[i] :: (m.take 30).drop (i + 1) := by rw [List.drop_eq_getElem_cons hlt2]; simp
   obtain ⟨z, hz⟩ := s03_l1 m fuel (i + 1) (by omega) (by omega) (by omega)
   refine ⟨z, cb_t (by simp; omega) (cb_t (inb_nat hlt) ?_)⟩
   rw [at0_nat hlt, e, List.all_cons]
   by_cases hl : (m[i].length : Int) ≤ 30
   ·refine bif_f (by omega) ?_
    rw [i64s i (by omega), hz, decide_eq_true hl, Bool.true_and]
   ·refine bif_t (by omega) ?_
    rw [decide_eq_false hl]; rfl
  ·refine ⟨(i : Int), cb_f (by simp; omega) ?_⟩
   have : (m.take 30).drop i = [] := by rw [List.drop_eq_nil_iff]; simp; omega
   rw [this]; rfl
theorem s03_eq (m : List (List Int)) : switchboardref03_Small m = some (s03 m) := by
 obtain ⟨z, hz⟩ := s03_l1 m FUEL 0 (by omega) (by omega) (by unfold FUEL; omega)
 unfold switchboardref03_Small s03
 refine bd_s hz ?_
 rw [List.drop_zero]
 by_cases hl : (m.length : Int) ≤ 30
 ·rw [List.take_of_length_le (by omega), decide_eq_true hl]
  cases m.all fun l => decide ((l.length : Int) ≤ 30) <;> rfl
 ·rw [decide_eq_false hl]
  cases (m.take 30).all fun l => decide ((l.length : Int) ≤ 30) <;> rfl
def sEx (x : ApiExpert) : Bool := s03 x.In && s03 x.Out
def sLay (l : ApiLayer) : Bool := decide ((l.Experts.length : Int) ≤ 9) && (s03 l.Gate && l.Experts.all sEx)
def s15 (m : ApiModel) : Bool := decide ((m.Layers.length : Int) ≤ 5) && m.Layers.all sLay
theorem s15_l2 : ∀ (xs : List ApiExpert) (i : Nat), switchboardref15_Small_l2 xs i = some (bif xs.all sEx then .out () else .ret false)
 | [], i => by rw [switchboardref15_Small_l2]; rfl
 | x :: xs, i => by
  rw [switchboardref15_Small_l2, s03_eq]
  simp only [Option.bind_some, s03_eq, List.all_cons, sEx]
  cases s03 x.In with
  | false => rfl
  | true =>
   cases s03 x.Out with
   | false => rfl
   | true => exact s15_l2 xs (i + 1)
theorem s15_l1 : ∀ (ls : List ApiLayer) (i : Nat), switchboardref15_Small_l1 ls i = some (bif ls.all sLay then .out () else .ret false)
 | [], i => by rw [switchboardref15_Small_l1]; rfl
 | l :: ls, i => by
  rw [switchboardref15_Small_l1, List.all_cons, sLay]
  by_cases hl : (l.Experts.length : Int) ≤ 9
  ·refine bif_f (by omega) ?_
   rw [decide_eq_true hl, s03_eq]
   simp only [Option.bind_some, s15_l2]
   cases s03 l.Gate with
   | false => rfl
   | true =>
    cases l.Experts.all sEx with
    | false => rfl
    | true => exact s15_l1 ls (i + 1)
  ·refine bif_t (by omega) ?_
   rw [decide_eq_false hl]; rfl
theorem s15_eq (m : ApiModel) : switchboardref15_Small m = some (s15 m) := by
 unfold switchboardref15_Small s15
 by_cases hl : (m.Layers.length : Int) ≤ 5
 ·refine bif_f (by omega) ?_
  rw [s15_l1, decide_eq_true hl]
  cases m.Layers.all sLay <;> rfl
 ·refine bif_t (by omega) ?_
  rw [decide_eq_false hl]; rfl
/-! ### right ones -/
theorem r03_l2 (m : List (List Int)) (i : Nat) (hi : i < m.length) (hl : m[i].length ≤ 100000) : ∀ (fuel k : Nat), k ≤ m[i].length → m[i].length - k < fuel → ∃ z, switchboardref03_Right_l2 m (i : Int) fuel (k : Int) = some (bif (m[i].drop k).all okB then .out z else .ret false)
 | 0, k, _, h => by omega
 | fuel + 1, k, hk, h => by
  rw [switchboardref03_Right_l2]
  by_cases he : k = m[i].length
  ·refine ⟨(k : Int), cb_t (inb_nat hi) ?_⟩
   rw [at0_nat hi]
   refine bif_f (by omega) ?_
   rw [he]; simp
  ·have hlt : k < m[i].length := by omega
   obtain ⟨z, hz⟩ := r03_l2 m i hi hl fuel (k + 1) (by omega) (by omega)
   refine ⟨z, cb_t (inb_nat hi) ?_⟩
   rw [at0_nat hi]
   refine bif_t (by omega) (cb_t (inb_nat hi) (cb_t (inb_nat hlt) ?_))
   rw [at0_nat hlt, List.drop_eq_getElem_cons hlt, List.all_cons, okB]
   by_cases h1 : 2147483647 < m[i][k]
   ·refine bif_t h1 ?_
    rw [decide_eq_false (by omega : ¬ m[i][k] ≤ 2147483647)]
    simp
   ·refine bif_f h1 (cb_t (inb_nat hi) (cb_t (inb_nat hlt) ?_))
    rw [decide_eq_true (by omega : m[i][k] ≤ 2147483647)]
    by_cases h2 : m[i][k] < -2147483647
    ·refine bif_t h2 ?_
     rw [decide_eq_false (by omega : ¬ -2147483647 ≤ m[i][k])]
     rfl
    ·refine bif_f h2 ?_
     rw [decide_eq_true (by omega : -2147483647 ≤ m[i][k]), i64s k (by omega), hz]
     rfl
theorem r03_l1 (m : List (List Int)) (c : Int) (hl : m.length ≤ 100000) (hr : ∀ l ∈ m, l.length ≤ 100000) : ∀ (fuel i : Nat), i ≤ m.length → m.length - i < fuel → ∃ z, switchboardref03_Right_l1 m c fuel (i : Int) = some (bif (m.drop i).all (rowB c) then .out z else .ret false)
 | 0, i, _, h => by omega
 | fuel + 1, i, hi, h => by
  rw [switchboardref03_Right_l1]
  by_cases he : i = m.length
  ·refine ⟨(i : Int), bif_f (by omega) ?_⟩
   rw [he]; simp
  ·have hlt : i < m.length := by omega
   obtain ⟨z, hz⟩ := r03_l1 m c hl hr fuel (i + 1) (by omega) (by omega)
   refine ⟨z, bif_t (by omega) (cb_t (inb_nat hlt) ?_)⟩
   rw [at0_nat hlt, List.drop_eq_getElem_cons hlt, List.all_cons, rowB]
   cases hc : (m[i].length : Int) == c with
   | false => exact cb_t (by simpa using hc) rfl
   | true =>
    refine cb_f (by simpa using hc) ?_
    obtain ⟨y, hy⟩ := r03_l2 m i hlt (hr _ (List.getElem_mem hlt)) FUEL 0 (by omega) (by have := hr _ (List.getElem_mem hlt); unfold FUEL; omega)
    refine bd_s hy ?_
    rw [List.drop_zero, Bool.true_and]
    cases m[i].all okB with
    | false => rfl
    | true => rw [Bool.true_and, ← hz, i64s i (by omega)]; rfl
theorem r03_eq (m : List (List Int)) (r c : Int) (hl : m.length ≤ 100000) (hr : ∀ l ∈ m, l.length ≤ 100000) : switchboardref03_Right m r c = some (matB m r c) := by
 unfold switchboardref03_Right matB
 cases hc : (m.length : Int) == r with
 | false => exact cb_t (by simpa using hc) rfl
 | true =>
  refine cb_f (by simpa using hc) ?_
  obtain ⟨y, hy⟩ := r03_l1 m c hl hr FUEL 0 (by omega) (by unfold FUEL; omega)
  refine bd_s hy ?_
  rw [List.drop_zero, Bool.true_and]
  cases m.all (rowB c) <;> rfl
theorem s03_len {m : List (List Int)} (h : s03 m = true) : m.length ≤ 30 ∧ ∀ l ∈ m, l.length ≤ 30 := by
 simp only [s03, Bool.and_eq_true, decide_eq_true_eq, List.all_eq_true] at h
 exact ⟨by omega, fun l hl => by have := h.2 l hl; omega⟩
theorem r03_s {m : List (List Int)} (h : s03 m = true) (r c : Int) : switchboardref03_Right m r c = some (matB m r c) := by
 have := s03_len h
 exact r03_eq m r c (by omega) (fun l hl => by have := this.2 l hl; omega)
theorem r11_eq {x : ApiExpert} (h : sEx x = true) (d : Int) : switchboardref11_Right x d = some (expB x d) := by
 simp only [sEx, Bool.and_eq_true] at h
 unfold switchboardref11_Right expB
 have e : (((decide (d < 1) || decide (8 < d)) || decide ((x.In.length : Int) < 1)) || decide (8 < (x.In.length : Int))) = !((((decide (1 ≤ d)) && (decide (d ≤ 8))) && (decide (1 ≤ (x.In.length : Int)))) && (decide ((x.In.length : Int) ≤ 8))) := by
  simp only [Bool.not_and, ← decide_not]
  congr 1
  ·congr 1
   ·congr 1
    ·exact decide_eq_decide.2 (by omega)
    ·exact decide_eq_decide.2 (by omega)
   ·exact decide_eq_decide.2 (by omega)
  ·exact decide_eq_decide.2 (by omega)
 rw [e]
 cases (((decide (1 ≤ d)) && (decide (d ≤ 8))) && (decide (1 ≤ (x.In.length : Int)))) && (decide ((x.In.length : Int) ≤ 8)) with
 | false => rfl
 | true =>
  rw [Bool.not_true, cond_false, r03_s h.1]
  simp only [Option.bind_some, Bool.true_and]
  cases matB x.In (x.In.length : Int) d with
  | false => rfl
  | true => rw [cond_true, r03_s h.2]; rfl
theorem r15_l2 (m : ApiModel) : ∀ (xs : List ApiExpert) (i : Nat), xs.all sEx = true → switchboardref15_Right_l2 m xs i = some (bif xs.all (fun x => expB x m.Dim) then .out () else .ret false)
 | [], i, _ => by rw [switchboardref15_Right_l2]; rfl
 | x :: xs, i, h => by
  rw [List.all_cons, Bool.and_eq_true] at h
  rw [switchboardref15_Right_l2, r11_eq h.1]
  simp only [Option.bind_some, List.all_cons]
  cases expB x m.Dim with
  | false => rfl
  | true => exact r15_l2 m xs (i + 1) h.2
theorem r15_l1 (m : ApiModel) : ∀ (ls : List ApiLayer) (i : Nat), ls.all sLay = true → switchboardref15_Right_l1 m ls i = some (bif ls.all (fun l => layB l m.Dim) then .out () else .ret false)
 | [], i, _ => by rw [switchboardref15_Right_l1]; rfl
 | l :: ls, i, h => by
  rw [List.all_cons, Bool.and_eq_true] at h
  have h0 := h.1
  simp only [sLay, Bool.and_eq_true] at h0
  rw [switchboardref15_Right_l1, List.all_cons, layB]
  have e : (decide ((l.Experts.length : Int) < 1) || decide (8 < (l.Experts.length : Int))) = !((decide (1 ≤ (l.Experts.length : Int))) && (decide ((l.Experts.length : Int) ≤ 8))) := by
   simp only [Bool.not_and, ← decide_not]
   congr 1
   ·exact decide_eq_decide.2 (by omega)
   ·exact decide_eq_decide.2 (by omega)
  rw [e]
  cases (decide (1 ≤ (l.Experts.length : Int))) && (decide ((l.Experts.length : Int) ≤ 8)) with
  | false => rfl
  | true =>
   rw [Bool.not_true, cond_false, r03_s h0.2.1]
   simp only [Option.bind_some, Bool.true_and]
   have e2 : (((!matB l.Gate (l.Experts.length : Int) m.Dim) || decide (l.Capacity < 1)) || decide (32 < l.Capacity)) = !((matB l.Gate (l.Experts.length : Int) m.Dim && (decide (1 ≤ l.Capacity))) && (decide (l.Capacity ≤ 32))) := by
    simp only [Bool.not_and, ← decide_not]
    congr 1
    ·congr 1
     exact decide_eq_decide.2 (by omega)
    ·exact decide_eq_decide.2 (by omega)
   rw [e2]
   cases (matB l.Gate (l.Experts.length : Int) m.Dim && (decide (1 ≤ l.Capacity))) && (decide (l.Capacity ≤ 32)) with
   | false => rfl
   | true =>
    rw [Bool.not_true, cond_false, r15_l2 m _ 0 h0.2.2]
    simp only [Bool.true_and]
    cases l.Experts.all (fun x => expB x m.Dim) with
    | false => rfl
    | true => exact r15_l1 m ls (i + 1) h.2
theorem r15_eq {m : ApiModel} (h : s15 m = true) : switchboardref15_Right m = some (modB m) := by
 simp only [s15, Bool.and_eq_true] at h
 unfold switchboardref15_Right modB
 have e : (((decide (m.Dim < 1) || decide (8 < m.Dim)) || decide ((m.Layers.length : Int) < 1)) || decide (4 < (m.Layers.length : Int))) = !((((decide (1 ≤ m.Dim)) && (decide (m.Dim ≤ 8))) && (decide (1 ≤ (m.Layers.length : Int)))) && (decide ((m.Layers.length : Int) ≤ 4))) := by
  simp only [Bool.not_and, ← decide_not]
  congr 1
  ·congr 1
   ·congr 1
    ·exact decide_eq_decide.2 (by omega)
    ·exact decide_eq_decide.2 (by omega)
   ·exact decide_eq_decide.2 (by omega)
  ·exact decide_eq_decide.2 (by omega)
 rw [e]
 cases (((decide (1 ≤ m.Dim)) && (decide (m.Dim ≤ 8))) && (decide (1 ≤ (m.Layers.length : Int)))) && (decide ((m.Layers.length : Int) ≤ 4)) with
 | false => rfl
 | true =>
  rw [Bool.not_true, cond_false, r15_l1 m _ 0 h.2]
  simp only [Bool.true_and]
  cases m.Layers.all (fun l => layB l m.Dim) <;> rfl
theorem r15t_eq {m : ApiModel} {ts : List (List Int)} (h : s03 ts = true) : switchboardref15_Tokens m ts = some (tokB m ts) := by
 unfold switchboardref15_Tokens tokB
 have e : (decide (0 < (ts.length : Int)) && decide ((ts.length : Int) < 17)) = ((decide (1 ≤ (ts.length : Int))) && (decide ((ts.length : Int) ≤ 16))) := by
  congr 1
  exact decide_eq_decide.2 (by omega)
 rw [e]
 cases (decide (1 ≤ (ts.length : Int))) && (decide ((ts.length : Int) ≤ 16)) with
 | false => rfl
 | true =>
  rw [cond_true, r03_s h]
  simp [matB]
/-- from a place on, each one above the one ahead -/
def incF : Option Int → List Int → Bool
 | _, [] => true
 | none, x :: l => (decide (1 ≤ x) && decide (x ≤ 4)) && incF (some x) l
 | some y, x :: l => ((decide (1 ≤ x) && decide (x ≤ 4)) && decide (y < x)) && incF (some x) l
theorem incF_eq : ∀ (l : List Int) (y : Int), 1 ≤ y → incF (some y) l = incB y l
 | [], y, _ => rfl
 | x :: l, y, hy => by
  rw [incF, incB]
  by_cases h : y < x
  ·rw [decide_eq_true h, decide_eq_true (by omega : 1 ≤ x), incF_eq l x (by omega)]
   simp
  ·rw [decide_eq_false h]; simp
theorem incF_none : ∀ (l : List Int), incF none l = incB 0 l
 | [] => rfl
 | x :: l => by
  rw [incF, incB]
  by_cases h : 0 < x
  ·rw [decide_eq_true h, decide_eq_true (by omega : 1 ≤ x), incF_eq l x (by omega)]
  ·rw [decide_eq_false h, decide_eq_false (by omega : ¬ 1 ≤ x)]; simp
def prev (l : List Int) : Nat → Option Int
 | 0 => none
 | k + 1 => l[k]?
theorem r17_l2 (p : PlaceMap) (i : Nat) (hi : i < p.Holders.length) (hl : p.Holders[i].length ≤ 100000) : ∀ (fuel k : Nat), k ≤ p.Holders[i].length → p.Holders[i].length - k < fuel → ∃ z, switchboardref17_Right_l2 p (i : Int) fuel (k : Int) = some (bif incF (prev p.Holders[i] k) (p.Holders[i].drop k) then .out z else .ret false)
 | 0, k, _, h => by omega
 | fuel + 1, k, hk, h => by
  rw [switchboardref17_Right_l2, at0_nat hi]
  generalize hL : p.Holders[i] = L at *
  by_cases he : k = L.length
  ·refine ⟨(k : Int), bif_f (by omega) ?_⟩
   have : L.drop k = [] := by rw [he]; simp
   rw [this]
   cases prev L k <;> rfl
  ·have hlt : k < L.length := by omega
   obtain ⟨z, hz⟩ := r17_l2 p i hi (by rw [hL]; exact hl) fuel (k + 1) (by rw [hL]; omega) (by rw [hL]; omega)
   rw [hL] at hz
   have hp : prev L (k + 1) = some L[k] := by simp [prev, hlt]
   rw [hp] at hz
   refine ⟨z, bif_t (by omega) (cb_t (inb_nat hlt) ?_)⟩
   rw [at0_nat hlt, List.drop_eq_getElem_cons hlt]
   have hf : ∀ o : Option Int, incF o (L[k] :: L.drop (k + 1)) = (((decide (1 ≤ L[k]) && decide (L[k] ≤ 4)) && (match o with | none => true | some y => decide (y < L[k]))) && incF (some L[k]) (L.drop (k + 1))) := fun o => by
    cases o with
    | none => rw [incF]; simp
    | some y => rw [incF]
   rw [hf]
   by_cases h1 : L[k] < 1
   ·refine bif_t h1 ?_
    rw [decide_eq_false (by omega : ¬ 1 ≤ L[k])]; rfl
   ·refine bif_f h1 (cb_t (inb_nat hlt) ?_)
    rw [decide_eq_true (by omega : 1 ≤ L[k])]
    by_cases h2 : 4 < L[k]
    ·refine bif_t h2 ?_
     rw [decide_eq_false (by omega : ¬ L[k] ≤ 4)]; rfl
    ·refine bif_f h2 ?_
     rw [decide_eq_true (by omega : L[k] ≤ 4)]
     by_cases h3 : 0 < (k : Int)
     ·obtain ⟨j, rfl⟩ : ∃ j, k = j + 1 := ⟨k - 1, by omega⟩
      have hj : j < L.length := by omega
      have hw : i64w (((j + 1 : Nat) : Int) - 1) = (j : Int) := by rw [i64w_eq (by omega) (by omega)]; omega
      have hpj : prev L (j + 1) = some L[j] := by simp [prev, hj]
      refine bif_t h3 (cb_t (inb_nat hlt) ?_)
      rw [hw, hpj]
      refine cb_t (inb_nat hj) ?_
      rw [at0_nat hj]
      by_cases h4 : L[j + 1] ≤ L[j]
      ·refine bif_t h4 ?_
       simp only [decide_eq_false (by omega : ¬ L[j] < L[j + 1])]; rfl
      ·refine bif_f h4 ?_
       simp only [decide_eq_true (by omega : L[j] < L[j + 1])]
       rw [i64s (j + 1) (by omega), hz]; rfl
     ·have hk0 : k = 0 := by omega
      refine bif_f h3 ?_
      subst hk0
      rw [i64s 0 (by omega), hz]; rfl
theorem r17_l1 (p : PlaceMap) (hl : p.Holders.length ≤ 100000) (hr : ∀ l ∈ p.Holders, l.length ≤ 100000) : ∀ (fuel i : Nat), i ≤ p.Holders.length → p.Holders.length - i < fuel → ∃ z, switchboardref17_Right_l1 p fuel (i : Int) = some (bif (p.Holders.drop i).all holB then .out z else .ret false)
 | 0, i, _, h => by omega
 | fuel + 1, i, hi, h => by
  rw [switchboardref17_Right_l1]
  by_cases he : i = p.Holders.length
  ·refine ⟨(i : Int), bif_f (by omega) ?_⟩
   rw [he]; simp
  ·have hlt : i < p.Holders.length := by omega
   obtain ⟨z, hz⟩ := r17_l1 p hl hr fuel (i + 1) (by omega) (by omega)
   refine ⟨z, bif_t (by omega) (cb_t (inb_nat hlt) ?_)⟩
   rw [at0_nat hlt, List.drop_eq_getElem_cons hlt, List.all_cons, holB]
   cases hc : (p.Holders[i].length : Int) == 0 with
   | true => rw [cond_true, Bool.not_true, Bool.and_false]; rfl
   | false =>
    obtain ⟨y, hy⟩ := r17_l2 p i hlt (hr _ (List.getElem_mem hlt)) FUEL 0 (by omega) (by have := hr _ (List.getElem_mem hlt); unfold FUEL; omega)
    rw [cond_false]
    refine bd_s hy ?_
    have e0 : prev p.Holders[i] 0 = none := rfl
    rw [List.drop_zero, e0, incF_none, Bool.not_false, Bool.and_true]
    cases incB 0 p.Holders[i] with
    | false => rfl
    | true => rw [Bool.true_and, ← hz, i64s i (by omega)]; rfl
theorem r17_eq {p : PlaceMap} (h : s03 p.Holders = true) : switchboardref17_Right p = some (plB p) := by
 have hs := s03_len h
 unfold switchboardref17_Right plB
 have e : ((decide (p.Epoch < 0) || decide (2147483647 < p.Epoch)) || decide (8 < (p.Holders.length : Int))) = !(((decide (0 ≤ p.Epoch)) && (decide (p.Epoch ≤ 2147483647))) && (decide ((p.Holders.length : Int) ≤ 8))) := by
  simp only [Bool.not_and, ← decide_not]
  congr 1
  ·congr 1
   ·exact decide_eq_decide.2 (by omega)
   ·exact decide_eq_decide.2 (by omega)
  ·exact decide_eq_decide.2 (by omega)
 rw [e]
 cases ((decide (0 ≤ p.Epoch)) && (decide (p.Epoch ≤ 2147483647))) && (decide ((p.Holders.length : Int) ≤ 8)) with
 | false => rw [Bool.not_false, cond_true, Bool.and_false]
 | true =>
  obtain ⟨y, hy⟩ := r17_l1 p (by omega) (fun l hl => by have := hs.2 l hl; omega) FUEL 0 (by omega) (by unfold FUEL; omega)
  rw [Bool.not_true, cond_false, Bool.and_true]
  refine bd_s hy ?_
  rw [List.drop_zero]
  cases p.Holders.all holB <;> rfl
theorem may_l1 (p : PlaceMap) : ∀ (ls : List ApiLayer) (i : Nat), switchboardref19_May_l1 p ls i = some (bif ls.all (fun l => decide ((l.Experts.length : Int) ≤ (p.Holders.length : Int))) then .out () else .ret false)
 | [], i => by rw [switchboardref19_May_l1]; rfl
 | l :: ls, i => by
  rw [switchboardref19_May_l1, List.all_cons]
  by_cases h : (l.Experts.length : Int) ≤ (p.Holders.length : Int)
  ·refine bif_f (by omega) ?_
   rw [may_l1 p ls (i + 1), decide_eq_true h, Bool.true_and]
  ·refine bif_t (by omega) ?_
   rw [decide_eq_false h]; rfl
theorem may_eq {m : ApiModel} {p : PlaceMap} {ts : List (List Int)} (h1 : s15 m = true) (h2 : s03 p.Holders = true) (h3 : s03 ts = true) : switchboardref19_May m p ts = some (mayB m p ts) := by
 unfold switchboardref19_May mayB
 rw [r15_eq h1]
 simp only [Option.bind_some]
 cases modB m with
 | false => rfl
 | true =>
  rw [Bool.not_true, cond_false, r15t_eq h3]
  simp only [Option.bind_some]
  cases tokB m ts with
  | false => rfl
  | true =>
   rw [Bool.not_true, cond_false, r17_eq h2]
   simp only [Option.bind_some]
   cases plB p with
   | false => rfl
   | true =>
    rw [Bool.not_true, cond_false, may_l1, fitB]
    cases m.Layers.all (fun l => decide ((l.Experts.length : Int) ≤ (p.Holders.length : Int))) <;> rfl
end Go.Sw.FL

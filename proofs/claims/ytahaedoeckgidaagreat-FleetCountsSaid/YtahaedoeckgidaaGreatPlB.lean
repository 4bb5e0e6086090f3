/- The plain law: which models, tokens and maps are right. -/
import Derived.Test.YtahaedoeckgidaaGreatPlA
set_option linter.unusedVariables false
set_option linter.unusedSimpArgs false
namespace Go.Sw.FL
def okB (n : Int) : Bool := decide (-2147483647 ≤ n) && decide (n ≤ 2147483647)
theorem okB_iff {n : Int} : okB n = true ↔ ok n := by simp [okB, ok]
def rowB (c : Int) (l : List Int) : Bool := ((l.length : Int) == c) && l.all okB
def matB (m : List (List Int)) (r c : Int) : Bool := ((m.length : Int) == r) && m.all (rowB c)
def expB (x : ApiExpert) (d : Int) : Bool := ((((decide (1 ≤ d)) && (decide (d ≤ 8))) && (decide (1 ≤ (x.In.length : Int)))) && (decide ((x.In.length : Int) ≤ 8))) && (matB x.In (x.In.length : Int) d && matB x.Out d (x.In.length : Int))
def layB (l : ApiLayer) (d : Int) : Bool := ((decide (1 ≤ (l.Experts.length : Int))) && (decide ((l.Experts.length : Int) ≤ 8))) && (((matB l.Gate (l.Experts.length : Int) d && (decide (1 ≤ l.Capacity))) && (decide (l.Capacity ≤ 32))) && l.Experts.all (fun x => expB x d))
def modB (m : ApiModel) : Bool := ((((decide (1 ≤ m.Dim)) && (decide (m.Dim ≤ 8))) && (decide (1 ≤ (m.Layers.length : Int)))) && (decide ((m.Layers.length : Int) ≤ 4))) && m.Layers.all (fun l => layB l m.Dim)
def tokB (m : ApiModel) (ts : List (List Int)) : Bool := ((decide (1 ≤ (ts.length : Int))) && (decide ((ts.length : Int) ≤ 16))) && ts.all (rowB m.Dim)
def incB : Int → List Int → Bool
 | _, [] => true
 | lo, x :: l => (decide (lo < x) && decide (x ≤ 4)) && incB x l
def holB (l : List Int) : Bool := incB 0 l && !((l.length : Int) == 0)
def plB (p : PlaceMap) : Bool := p.Holders.all holB && (((decide (0 ≤ p.Epoch)) && (decide (p.Epoch ≤ 2147483647))) && (decide ((p.Holders.length : Int) ≤ 8)))
def fitB (m : ApiModel) (p : PlaceMap) : Bool := m.Layers.all (fun l => decide ((l.Experts.length : Int) ≤ (p.Holders.length : Int)))
def mayB (m : ApiModel) (p : PlaceMap) (ts : List (List Int)) : Bool := modB m && (tokB m ts && (plB p && fitB m p))
theorem any_not {α : Type} (f : α → Bool) : ∀ (xs : List α), (!xs.any (fun x => !f x)) = xs.all f
 | [] => rfl
 | x :: xs => by rw [List.any_cons, List.all_cons, Bool.not_or, any_not f xs, Bool.not_not]
theorem hdne (n : Int) : (hd n != n) = !okB n := by
 cases h : okB n with
 | true => have := hd_id (okB_iff.1 h); simp [this]
 | false =>
  have : ¬ hd n = n := fun e => by have := okB_iff.2 (hd_iff.1 e); rw [h] at this; cases this
  simp [this]
/-! ### the program's -/
theorem mr11 (x : Int) : mat_Right_1_1 x = some (!okB x) := by unfold mat_Right_1_1; rw [hold_eq]; simp only [Option.bind_some, hdne]
theorem cf0_l1 : ∀ (xs : List (Int)) (i : Nat), ∃ j : Nat, slices_IndexFunc_int_mat_Right_1_1_l1 xs i = some (bif xs.any (fun n => !okB n) then .ret (j : Int) else .out ())
 | [], i => ⟨0, by rw [slices_IndexFunc_int_mat_Right_1_1_l1]; rfl⟩
 | x :: xs, i => by
  obtain ⟨j, hj⟩ := cf0_l1 xs (i + 1)
  have hf : mat_Right_1_1 x = some ((fun n => !okB n) x) := mr11 x
  rw [slices_IndexFunc_int_mat_Right_1_1_l1, hf]
  simp only [Option.bind_some, List.any_cons]
  cases hb : !okB x with
  | true => exact ⟨i, rfl⟩
  | false => exact ⟨j, by rw [cond_false, hj, Bool.false_or]⟩
theorem cf0 (xs : List (Int)) : slices_ContainsFunc_int_mat_Right_1_1 xs = some (xs.any (fun n => !okB n)) := by
 obtain ⟨j, hj⟩ := cf0_l1 xs 0
 unfold slices_ContainsFunc_int_mat_Right_1_1 slices_IndexFunc_int_mat_Right_1_1
 rw [hj]
 cases xs.any (fun n => !okB n) with
 | true => simp
 | false => rfl
theorem mr1 (x : List Int) (q : Int) : mat_Right_1 x q = some (!rowB q x) := by
 unfold mat_Right_1 rowB
 cases h : (x.length : Int) == q with
 | true =>
  have : ((x.length : Int) != q) = false := by simpa using h
  rw [this, cond_false, cf0]
  simp only [Option.bind_some, Bool.true_and]
  rw [← any_not, Bool.not_not]
 | false =>
  have : ((x.length : Int) != q) = true := by simpa using h
  rw [this]; rfl
theorem cf1_l1 (q : Int) : ∀ (xs : List (List Int)) (i : Nat), ∃ j : Nat, slices_IndexFunc__int_mat_Right_1_l1 q xs i = some (bif xs.any (fun l => !rowB q l) then .ret (j : Int) else .out ())
 | [], i => ⟨0, by rw [slices_IndexFunc__int_mat_Right_1_l1]; rfl⟩
 | x :: xs, i => by
  obtain ⟨j, hj⟩ := cf1_l1 q xs (i + 1)
  have hf : mat_Right_1 x q = some ((fun l => !rowB q l) x) := mr1 x q
  rw [slices_IndexFunc__int_mat_Right_1_l1, hf]
  simp only [Option.bind_some, List.any_cons]
  cases hb : !rowB q x with
  | true => exact ⟨i, rfl⟩
  | false => exact ⟨j, by rw [cond_false, hj, Bool.false_or]⟩
theorem cf1 (q : Int) (xs : List (List Int)) : slices_ContainsFunc__int_mat_Right_1 xs q = some (xs.any (fun l => !rowB q l)) := by
 obtain ⟨j, hj⟩ := cf1_l1 q xs 0
 unfold slices_ContainsFunc__int_mat_Right_1 slices_IndexFunc__int_mat_Right_1
 rw [hj]
 cases xs.any (fun l => !rowB q l) with
 | true => simp
 | false => rfl
theorem matR_eq (m : List (List Int)) (r c : Int) : mat_Right m r c = some (matB m r c) := by
 unfold mat_Right matB
 cases h : (m.length : Int) == r with
 | true => rw [cond_true, cf1]; simp only [Option.bind_some, Bool.true_and, any_not]
 | false => rfl
theorem expR_eq (x : ApiExpert) (d : Int) : expert_Right x d = some (expB x d) := by
 unfold expert_Right expB
 cases h : (((decide (1 ≤ d)) && (decide (d ≤ 8))) && (decide (1 ≤ (x.In.length : Int)))) && (decide ((x.In.length : Int) ≤ 8)) with
 | true =>
  rw [cond_true, matR_eq]
  simp only [Option.bind_some, Bool.true_and]
  cases hm : matB x.In (x.In.length : Int) d with
  | true => rw [cond_true, matR_eq]; rfl
  | false => rfl
 | false => rfl
theorem ml1 (x : ApiExpert) (q : Int) : model_layer_1 x q = some (!expB x q) := by unfold model_layer_1; rw [expR_eq]; rfl
theorem cf2_l1 (q : Int) : ∀ (xs : List (ApiExpert)) (i : Nat), ∃ j : Nat, slices_IndexFunc_api_Expert_model_layer_1_l1 q xs i = some (bif xs.any (fun x => !expB x q) then .ret (j : Int) else .out ())
 | [], i => ⟨0, by rw [slices_IndexFunc_api_Expert_model_layer_1_l1]; rfl⟩
 | x :: xs, i => by
  obtain ⟨j, hj⟩ := cf2_l1 q xs (i + 1)
  have hf : model_layer_1 x q = some ((fun x => !expB x q) x) := ml1 x q
  rw [slices_IndexFunc_api_Expert_model_layer_1_l1, hf]
  simp only [Option.bind_some, List.any_cons]
  cases hb : !expB x q with
  | true => exact ⟨i, rfl⟩
  | false => exact ⟨j, by rw [cond_false, hj, Bool.false_or]⟩
theorem cf2 (q : Int) (xs : List (ApiExpert)) : slices_ContainsFunc_api_Expert_model_layer_1 xs q = some (xs.any (fun x => !expB x q)) := by
 obtain ⟨j, hj⟩ := cf2_l1 q xs 0
 unfold slices_ContainsFunc_api_Expert_model_layer_1 slices_IndexFunc_api_Expert_model_layer_1
 rw [hj]
 cases xs.any (fun x => !expB x q) with
 | true => simp
 | false => rfl
theorem layR_eq (l : ApiLayer) (d : Int) : model_layer l d = some (layB l d) := by
 unfold model_layer layB
 cases h : (decide (1 ≤ (l.Experts.length : Int))) && (decide ((l.Experts.length : Int) ≤ 8)) with
 | true =>
  rw [cond_true, matR_eq]
  simp only [Option.bind_some, Bool.true_and]
  cases hm : (matB l.Gate (l.Experts.length : Int) d && (decide (1 ≤ l.Capacity))) && (decide (l.Capacity ≤ 32)) with
  | true => rw [cond_true, cf2]; simp only [Option.bind_some, Bool.true_and, any_not]
  | false => rfl
 | false => rfl
theorem mrr1 (x : ApiLayer) (q : ApiModel) : model_Right_1 x q = some (!layB x q.Dim) := by unfold model_Right_1; rw [layR_eq]; rfl
theorem cf3_l1 (q : ApiModel) : ∀ (xs : List (ApiLayer)) (i : Nat), ∃ j : Nat, slices_IndexFunc_api_Layer_model_Right_1_l1 q xs i = some (bif xs.any (fun l => !layB l q.Dim) then .ret (j : Int) else .out ())
 | [], i => ⟨0, by rw [slices_IndexFunc_api_Layer_model_Right_1_l1]; rfl⟩
 | x :: xs, i => by
  obtain ⟨j, hj⟩ := cf3_l1 q xs (i + 1)
  have hf : model_Right_1 x q = some ((fun l => !layB l q.Dim) x) := mrr1 x q
  rw [slices_IndexFunc_api_Layer_model_Right_1_l1, hf]
  simp only [Option.bind_some, List.any_cons]
  cases hb : !layB x q.Dim with
  | true => exact ⟨i, rfl⟩
  | false => exact ⟨j, by rw [cond_false, hj, Bool.false_or]⟩
theorem cf3 (q : ApiModel) (xs : List (ApiLayer)) : slices_ContainsFunc_api_Layer_model_Right_1 xs q = some (xs.any (fun l => !layB l q.Dim)) := by
 obtain ⟨j, hj⟩ := cf3_l1 q xs 0
 unfold slices_ContainsFunc_api_Layer_model_Right_1 slices_IndexFunc_api_Layer_model_Right_1
 rw [hj]
 cases xs.any (fun l => !layB l q.Dim) with
 | true => simp
 | false => rfl
theorem modR_eq (m : ApiModel) : model_Right m = some (modB m) := by
 unfold model_Right modB
 cases h : (((decide (1 ≤ m.Dim)) && (decide (m.Dim ≤ 8))) && (decide (1 ≤ (m.Layers.length : Int)))) && (decide ((m.Layers.length : Int) ≤ 4)) with
 | true => rw [cond_true, cf3]; simp only [Option.bind_some, Bool.true_and, any_not]
 | false => rfl
theorem mt11 (x : Int) : model_Tokens_1_1 x = some (!okB x) := by unfold model_Tokens_1_1; rw [hold_eq]; simp only [Option.bind_some, hdne]
theorem cf4_l1 : ∀ (xs : List (Int)) (i : Nat), ∃ j : Nat, slices_IndexFunc_int_model_Tokens_1_1_l1 xs i = some (bif xs.any (fun n => !okB n) then .ret (j : Int) else .out ())
 | [], i => ⟨0, by rw [slices_IndexFunc_int_model_Tokens_1_1_l1]; rfl⟩
 | x :: xs, i => by
  obtain ⟨j, hj⟩ := cf4_l1 xs (i + 1)
  have hf : model_Tokens_1_1 x = some ((fun n => !okB n) x) := mt11 x
  rw [slices_IndexFunc_int_model_Tokens_1_1_l1, hf]
  simp only [Option.bind_some, List.any_cons]
  cases hb : !okB x with
  | true => exact ⟨i, rfl⟩
  | false => exact ⟨j, by rw [cond_false, hj, Bool.false_or]⟩
theorem cf4 (xs : List (Int)) : slices_ContainsFunc_int_model_Tokens_1_1 xs = some (xs.any (fun n => !okB n)) := by
 obtain ⟨j, hj⟩ := cf4_l1 xs 0
 unfold slices_ContainsFunc_int_model_Tokens_1_1 slices_IndexFunc_int_model_Tokens_1_1
 rw [hj]
 cases xs.any (fun n => !okB n) with
 | true => simp
 | false => rfl
theorem mt1 (x : List Int) (q : ApiModel) : model_Tokens_1 x q = some (!rowB q.Dim x) := by
 unfold model_Tokens_1 rowB
 cases h : (x.length : Int) == q.Dim with
 | true =>
  have : ((x.length : Int) != q.Dim) = false := by simpa using h
  rw [this, cond_false, cf4]
  simp only [Option.bind_some, Bool.true_and]
  rw [← any_not, Bool.not_not]
 | false =>
  have : ((x.length : Int) != q.Dim) = true := by simpa using h
  rw [this]; rfl
theorem cf5_l1 (q : ApiModel) : ∀ (xs : List (List Int)) (i : Nat), ∃ j : Nat, slices_IndexFunc__int_model_Tokens_1_l1 q xs i = some (bif xs.any (fun l => !rowB q.Dim l) then .ret (j : Int) else .out ())
 | [], i => ⟨0, by rw [slices_IndexFunc__int_model_Tokens_1_l1]; rfl⟩
 | x :: xs, i => by
  obtain ⟨j, hj⟩ := cf5_l1 q xs (i + 1)
  have hf : model_Tokens_1 x q = some ((fun l => !rowB q.Dim l) x) := mt1 x q
  rw [slices_IndexFunc__int_model_Tokens_1_l1, hf]
  simp only [Option.bind_some, List.any_cons]
  cases hb : !rowB q.Dim x with
  | true => exact ⟨i, rfl⟩
  | false => exact ⟨j, by rw [cond_false, hj, Bool.false_or]⟩
theorem cf5 (q : ApiModel) (xs : List (List Int)) : slices_ContainsFunc__int_model_Tokens_1 xs q = some (xs.any (fun l => !rowB q.Dim l)) := by
 obtain ⟨j, hj⟩ := cf5_l1 q xs 0
 unfold slices_ContainsFunc__int_model_Tokens_1 slices_IndexFunc__int_model_Tokens_1
 rw [hj]
 cases xs.any (fun l => !rowB q.Dim l) with
 | true => simp
 | false => rfl
theorem tokR_eq (m : ApiModel) (ts : List (List Int)) : model_Tokens m ts = some (tokB m ts) := by
 unfold model_Tokens tokB
 cases h : (decide (1 ≤ (ts.length : Int))) && (decide ((ts.length : Int) ≤ 16)) with
 | true => rw [cond_true, cf5]; simp only [Option.bind_some, Bool.true_and, any_not]
 | false => rfl
theorem plR_l2 : ∀ (l : List Int) (i : Nat) (lo : Int), ∃ z, place_Right_l2 l i lo = some (bif incB lo l then .out z else .ret false)
 | [], i, lo => ⟨lo, by rw [place_Right_l2]; rfl⟩
 | x :: l, i, lo => by
  obtain ⟨z, hz⟩ := plR_l2 l (i + 1) x
  refine ⟨z, ?_⟩
  rw [place_Right_l2, incB]
  have e : (decide (x ≤ lo) || decide (4 < x)) = !(decide (lo < x) && decide (x ≤ 4)) := by
   rw [Bool.not_and, ← decide_not, ← decide_not]
   congr 1
   ·exact decide_eq_decide.2 (by omega)
   ·exact decide_eq_decide.2 (by omega)
  rw [e]
  cases decide (lo < x) && decide (x ≤ 4) with
  | true => rw [Bool.not_true, cond_false, hz, Bool.true_and]
  | false => rfl
theorem plR_l1 : ∀ (hs : List (List Int)) (i : Nat), place_Right_l1 hs i = some (bif hs.all holB then .out () else .ret false)
 | [], i => by rw [place_Right_l1]; rfl
 | l :: hs, i => by
  obtain ⟨z, hz⟩ := plR_l2 l 0 0
  rw [place_Right_l1, hz, List.all_cons, holB]
  cases incB 0 l with
  | true =>
   simp only [cond_true, Option.bind_some, Bool.true_and]
   cases (l.length : Int) == 0 with
   | true => rfl
   | false => rw [cond_false, plR_l1 hs (i + 1)]; rfl
  | false => rfl
theorem plR_eq (p : PlaceMap) : place_Right p = some (plB p) := by
 unfold place_Right plB
 rw [plR_l1]
 cases p.Holders.all holB with
 | true => simp only [cond_true, Option.bind_some, Bool.true_and]
 | false => rfl
theorem fn1 (x : ApiLayer) (q : PlaceMap) : fleet_New_1 x q = some (decide ((q.Holders.length : Int) < (x.Experts.length : Int))) := rfl
theorem cf6_l1 (q : PlaceMap) : ∀ (xs : List (ApiLayer)) (i : Nat), ∃ j : Nat, slices_IndexFunc_api_Layer_fleet_New_1_l1 q xs i = some (bif xs.any (fun l => decide ((q.Holders.length : Int) < (l.Experts.length : Int))) then .ret (j : Int) else .out ())
 | [], i => ⟨0, by rw [slices_IndexFunc_api_Layer_fleet_New_1_l1]; rfl⟩
 | x :: xs, i => by
  obtain ⟨j, hj⟩ := cf6_l1 q xs (i + 1)
  have hf : fleet_New_1 x q = some ((fun l => decide ((q.Holders.length : Int) < (l.Experts.length : Int))) x) := fn1 x q
  rw [slices_IndexFunc_api_Layer_fleet_New_1_l1, hf]
  simp only [Option.bind_some, List.any_cons]
  cases hb : decide ((q.Holders.length : Int) < (x.Experts.length : Int)) with
  | true => exact ⟨i, rfl⟩
  | false => exact ⟨j, by rw [cond_false, hj, Bool.false_or]⟩
theorem cf6 (q : PlaceMap) (xs : List (ApiLayer)) : slices_ContainsFunc_api_Layer_fleet_New_1 xs q = some (xs.any (fun l => decide ((q.Holders.length : Int) < (l.Experts.length : Int)))) := by
 obtain ⟨j, hj⟩ := cf6_l1 q xs 0
 unfold slices_ContainsFunc_api_Layer_fleet_New_1 slices_IndexFunc_api_Layer_fleet_New_1
 rw [hj]
 cases xs.any (fun l => decide ((q.Holders.length : Int) < (l.Experts.length : Int))) with
 | true => simp
 | false => rfl
theorem any_fit (m : ApiModel) (p : PlaceMap) : m.Layers.any (fun l => decide ((p.Holders.length : Int) < (l.Experts.length : Int))) = !fitB m p := by
 unfold fitB
 rw [← any_not, Bool.not_not]
 congr 1
 funext l
 rw [← decide_not]
 exact decide_eq_decide.2 (by omega)
end Go.Sw.FL

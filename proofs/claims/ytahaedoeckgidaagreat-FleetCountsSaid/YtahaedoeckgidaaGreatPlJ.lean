/- The plain law: maps stay right. -/
import Derived.Test.YtahaedoeckgidaaGreatPlI
set_option linter.unusedVariables false
set_option linter.unusedSimpArgs false
namespace Go.Sw.FL
/-! ### a holder is deleted -/
/-! ### right maps -/
theorem incB_iff : ∀ (l : List Int) (lo : Int), incB lo l = true ↔ (l.Pairwise (· < ·) ∧ ∀ x ∈ l, lo < x ∧ x ≤ 4)
 | [], lo => by simp [incB]
 | x :: l, lo => by
  rw [incB, Bool.and_eq_true, Bool.and_eq_true, decide_eq_true_eq, decide_eq_true_eq, incB_iff l x, List.pairwise_cons]
  constructor
  ·rintro ⟨⟨h1, h2⟩, h3, h4⟩
   refine ⟨⟨fun y hy => (h4 y hy).1, h3⟩, fun y hy => ?_⟩
   rcases List.mem_cons.1 hy with rfl | hy
   ·exact ⟨h1, h2⟩
   ·have := h4 y hy; omega
  ·rintro ⟨⟨h1, h2⟩, h3⟩
   have := h3 x (by simp)
   exact ⟨⟨this.1, this.2⟩, h2, fun y hy => ⟨h1 y hy, (h3 y (by simp [hy])).2⟩⟩
/-- The holders of an expert, when they are right. -/
def hol (l : List Int) : Prop := (l.Pairwise (· < ·) ∧ ∀ x ∈ l, 0 < x ∧ x ≤ 4) ∧ l ≠ []
theorem holB_iff (l : List Int) : holB l = true ↔ hol l := by
 unfold holB hol
 rw [Bool.and_eq_true, incB_iff]
 cases l with
 | nil => simp
 | cons x l => simp; intros; omega
def plP (p : PlaceMap) : Prop := (∀ l ∈ p.Holders, hol l) ∧ (0 ≤ p.Epoch ∧ p.Epoch ≤ 2147483647) ∧ p.Holders.length ≤ 8
theorem plB_iff (p : PlaceMap) : plB p = true ↔ plP p := by
 unfold plB plP
 simp only [Bool.and_eq_true, List.all_eq_true, decide_eq_true_eq, holB_iff]
 constructor
 ·rintro ⟨h1, h2, h3⟩; exact ⟨h1, h2, by omega⟩
 ·rintro ⟨h1, h2, h3⟩; exact ⟨h1, h2, by omega⟩
theorem cint_l1 (q : Int) : ∀ (l : List Int) (i : Nat), (q ∈ l ∧ ∃ j : Nat, slices_Index_int_l1 q l i = some (.ret (j : Int))) ∨ (q ∉ l ∧ slices_Index_int_l1 q l i = some (.out ()))
 | [], i => .inr ⟨by simp, rfl⟩
 | x :: l, i => by
  rw [slices_Index_int_l1]
  by_cases h : q = x
  ·subst h
   exact .inl ⟨by simp, i, cb_t (by simp) rfl⟩
  ·rcases cint_l1 q l (i + 1) with ⟨h1, j, h2⟩ | ⟨h1, h2⟩
   ·exact .inl ⟨by simp [h1], j, cb_f (by simpa using h) h2⟩
   ·exact .inr ⟨by simp [h, h1], cb_f (by simpa using h) h2⟩
theorem cint_eq (q : Int) (l : List Int) : slices_Contains_int l q = some (decide (q ∈ l)) := by
 unfold slices_Contains_int slices_Index_int
 rcases cint_l1 q l 0 with ⟨h1, j, h2⟩ | ⟨h1, h2⟩
 ·refine bd_s (bd_s h2 rfl) ?_
  rw [decide_eq_true h1]; simp
 ·refine bd_s (bd_s h2 rfl) ?_
  rw [decide_eq_false h1]; rfl
theorem holds_eq (p : PlaceMap) (x n : Int) (h0 : 0 ≤ x) (h1 : x < p.Holders.length) : place_Holds p x n = some (decide (n ∈ at0 p.Holders x)) := by
 unfold place_Holds
 refine cb_t (by simp; omega) (cb_t (by simp [inb]; omega) (bd_s (cint_eq _ _) rfl))
/-- Who is picked. -/
def pickTo (p : PlaceMap) (x k : Int) : Int := at0 (at0 p.Holders x) (Int.tmod k ((at0 p.Holders x).length : Int))
theorem pick_eq {p : PlaceMap} (h : plP p) {x k : Int} (h0 : 0 ≤ x) (h1 : x < p.Holders.length) (hk : 0 ≤ k) : place_Pick p x k = some (pickTo p x k, true) ∧ pickTo p x k ∈ at0 p.Holders x ∧ (1 ≤ pickTo p x k ∧ pickTo p x k ≤ 4) := by
 have hl : hol (at0 p.Holders x) := h.1 _ (at0_mem h0 h1)
 have hn : 0 < (at0 p.Holders x).length := List.length_pos_iff.2 hl.2
 have ht : 0 ≤ Int.tmod k ((at0 p.Holders x).length : Int) ∧ Int.tmod k ((at0 p.Holders x).length : Int) < ((at0 p.Holders x).length : Int) := by
  rw [Int.tmod_eq_emod_of_nonneg hk]
  exact ⟨Int.emod_nonneg _ (by omega), Int.emod_lt_of_pos _ (by omega)⟩
 have hmem : pickTo p x k ∈ at0 p.Holders x := at0_mem ht.1 ht.2
 refine ⟨?_, hmem, ?_⟩
 ·unfold place_Pick
  rw [plR_eq, (plB_iff p).2 h]
  refine bd_s rfl (cb_f (by simp; omega) (cb_t (by simp [inb]; omega) (cb_t (by simpa using hl.2) (cb_t (by simp [inb]; omega) rfl))))
 ·have := hl.1.2 _ hmem; omega
end Go.Sw.FL

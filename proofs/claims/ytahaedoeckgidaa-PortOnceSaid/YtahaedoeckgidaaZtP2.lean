/- PortOnce, the plain law: windows. -/
import Derived.Test.YtahaedoeckgidaaZtP1
set_option linter.unusedVariables false
set_option linter.unusedSimpArgs false
namespace Go.Sw.PO
def inc : Int → List Int → Prop
  | _, [] => True
  | lo, x :: l => lo < x ∧ inc x l
theorem inc_lt : ∀ {l : List Int} {lo : Int}, inc lo l → ∀ x ∈ l, lo < x
  | y :: l, lo, h, x, hx => by
    rcases List.mem_cons.1 hx with rfl | hx
    · exact h.1
    · have := inc_lt h.2 x hx; have := h.1; omega
theorem inc_mono {l : List Int} {lo lo' : Int} (h : inc lo l) (hl : lo' ≤ lo) : inc lo' l := by
  cases l with
  | nil => trivial
  | cons x l => exact ⟨by have := h.1; omega, h.2⟩
theorem inc_len : ∀ {l : List Int} {lo hi : Int}, inc lo l → (∀ x ∈ l, x < hi) → lo < hi → (l.length : Int) ≤ hi - lo - 1
  | [], lo, hi, _, _, h => by simp; omega
  | x :: l, lo, hi, h, hx, hl => by
    have h1 := hx x (by simp)
    have := inc_len h.2 (fun y hy => hx y (by simp [hy])) h1
    have := h.1
    simp; omega
theorem right_l1 : ∀ (l : List Int) (i : Nat) (last : Int), inc last l → (∀ x ∈ l, x ≤ 2147483647) → ∃ z, window_Right_l1 l i last = some (.out z)
  | [], i, last, _, _ => ⟨last, by rw [window_Right_l1]⟩
  | x :: l, i, last, h, hx => by
    obtain ⟨z, hz⟩ := right_l1 l (i + 1) x h.2 (fun y hy => hx y (by simp [hy]))
    have h1 := h.1
    have h2 := hx x (by simp)
    refine ⟨z, ?_⟩
    rw [window_Right_l1]
    have e : (decide (x ≤ last) || decide (2147483647 < x)) = false := by simp; omega
    rw [e, cond_false, hz]
theorem right_eq {low : Int} {seen : List Int} (h0 : 0 ≤ low) (h1 : low ≤ 2147483647) (hi : inc (low - 1) seen) (hx : ∀ x ∈ seen, x ≤ 2147483647) (hl : seen.length ≤ 32) : window_Right ⟨low, seen⟩ = some true := by
  unfold window_Right
  have e : i64w (low - 1) = low - 1 := i64w_id (by omega) (by omega)
  obtain ⟨z, hz⟩ := right_l1 seen 0 (low - 1) hi hx
  simp only [e, hz, Option.bind_some]
  have h2 : (seen.length : Int) ≤ 32 := by omega
  simp [h0, h1, h2]
theorem index_l1' (n : Int) : ∀ (l : List Int) (i : Nat), slices_Index_int_l1 n l i = some (match l.findIdx? (fun x => n == x) with | some j => .ret ((j + i : Nat) : Int) | none => .out ())
  | [], i => by simp [slices_Index_int_l1]
  | x :: l, i => by
    rw [slices_Index_int_l1]
    cases h : n == x with
    | true => simp [List.findIdx?_cons, h]
    | false =>
      rw [cond_false, index_l1' n l (i + 1)]
      simp only [List.findIdx?_cons, h]
      cases l.findIdx? (fun x => n == x) <;> simp <;> omega
theorem contains_eq (l : List Int) (n : Int) : slices_Contains_int l n = some (decide (n ∈ l)) := by
  unfold slices_Contains_int slices_Index_int
  rw [index_l1']
  simp only [Option.bind_some]
  cases hk : l.findIdx? (fun x => n == x) with
  | none =>
    have := List.findIdx?_eq_none_iff.1 hk
    have hn : ¬ n ∈ l := fun h => by have := this n h; simp at this
    simp [hn]
  | some k =>
    obtain ⟨h1, h2, _⟩ := List.findIdx?_eq_some_iff_getElem.1 hk
    have h3 : n = l[k] := by simpa using h2
    have hn : n ∈ l := by rw [h3]; exact List.getElem_mem h1
    simp [hn]
theorem clone_int (l : List Int) (h : l.length ≤ 100000) : slices_Clone_int l = some l := by
  unfold slices_Clone_int cloneM
  have : lim l.length = true := by simp [lim]; omega
  rw [this, cond_true]
/-- The sorted list is strictly increasing where no number stands twice. -/
theorem sorted_inc : ∀ {l : List Int} {lo : Int}, l.Pairwise (· ≤ ·) → l.Nodup → (∀ x ∈ l, lo < x) → inc lo l
  | [], _, _, _, _ => trivial
  | x :: l, lo, hs, hn, hx => by
    rw [List.pairwise_cons] at hs
    rw [List.nodup_cons] at hn
    refine ⟨hx x (by simp), sorted_inc hs.2 hn.2 fun y hy => ?_⟩
    have h1 := hs.1 y hy
    have h2 : x ≠ y := fun e => hn.1 (e ▸ hy)
    omega
theorem inc_nodup : ∀ {l : List Int} {lo : Int}, inc lo l → l.Nodup
  | [], _, _ => List.nodup_nil
  | x :: l, lo, h => by
    rw [List.nodup_cons]
    exact ⟨fun hx => by have := inc_lt h.2 x hx; omega, inc_nodup h.2⟩
theorem accept_l2 : ∀ (fuel : Nat) (l : List Int) (low : Int), l.length < fuel → inc (low - 1) l → 0 ≤ low → (∀ x ∈ l, x < 250) → low ≤ 250 →
    ∃ l' low', window_Accept_l2 fuel l low = some (l', low') ∧ inc low' l' ∧ low ≤ low' ∧ low' ≤ 250 ∧ (∀ x, (x < low' ∨ x ∈ l') ↔ (x < low ∨ x ∈ l))
  | 0, l, low, h, _, _, _, _ => by omega
  | fuel + 1, [], low, _, _, _, _, h5 => by
    refine ⟨[], low, ?_, trivial, by omega, h5, fun x => Iff.rfl⟩
    rw [window_Accept_l2]; simp
  | fuel + 1, x :: l, low, h, hi, h0, hx, h5 => by
    have h1 : decide (0 < ((x :: l).length : Int)) = true := by simp <;> omega
    have h2 : inb 0 (x :: l).length = true := by simp [inb]
    have h3 : at0 (x :: l) 0 = x := rfl
    have hxl := hx x (by simp)
    rw [window_Accept_l2, h1, cond_true, h2, cond_true, h3]
    by_cases he : x = low
    · have h4 : (x == low) = true := by simpa using he
      have h6 : cutOk 1 ((x :: l).length : Int) (x :: l).length = true := by simp [cutOk]; omega
      have h7 : lcut (x :: l) 1 ((x :: l).length : Int) = l := by simp [lcut]
      have h8 : i64w (low + 1) = low + 1 := i64w_id (by omega) (by omega)
      rw [h4, cond_true, h6, cond_true, h7, h8]
      obtain ⟨l', low', e1, e2, e3, e4, e5⟩ := accept_l2 fuel l (low + 1) (by simp at h; omega) (by have := hi.2; rw [he] at this; simpa using this) (by omega) (fun y hy => hx y (by simp [hy])) (by omega)
      refine ⟨l', low', e1, e2, by omega, e4, fun y => ?_⟩
      rw [e5 y, List.mem_cons]
      constructor
      · rintro (h | h)
        · by_cases hy : y = x
          · exact .inr (.inl hy)
          · exact .inl (by omega)
        · exact .inr (.inr h)
      · rintro (h | h | h)
        · exact .inl (by omega)
        · exact .inl (by omega)
        · exact .inr h
    · have h4 : (x == low) = false := by simpa using he
      rw [h4, cond_false]
      exact ⟨_, _, rfl, ⟨by have := hi.1; omega, hi.2⟩, by omega, h5, fun y => Iff.rfl⟩
theorem accept_old {low n : Int} {seen : List Int} (h0 : 0 ≤ low) (h1 : low ≤ 250) (hi : inc low seen) (hx : ∀ x ∈ seen, x < 250) (hl : seen.length ≤ 31) (hn : n < 250) (h : n < low ∨ n ∈ seen) : window_Accept ⟨low, seen⟩ n = some (⟨low, seen⟩, false) := by
  unfold window_Accept
  rw [right_eq h0 (by omega) (inc_mono hi (by omega)) (fun x hx' => by have := hx x hx'; omega) (by omega)]
  simp only [Option.bind_some, contains_eq]
  by_cases hlow : n < low
  · simp [hlow]
  · have hin : n ∈ seen := h.resolve_left hlow
    have e : decide (2147483647 < n) = false := by simp; omega
    simp [hlow, hin, e]
theorem accept_new {low n : Int} {seen : List Int} (h0 : 0 ≤ low) (h1 : low ≤ 250) (hi : inc low seen) (hx : ∀ x ∈ seen, x < 250) (hl : seen.length ≤ 31) (hn : n < 250) (hlow : ¬ n < low) (hin : ¬ n ∈ seen) :
    ∃ low' seen', window_Accept ⟨low, seen⟩ n = some (⟨low', seen'⟩, true) ∧ inc low' seen' ∧ low ≤ low' ∧ low' ≤ 250 ∧ (∀ x ∈ seen', x < 250) ∧ (∀ x, (x < low' ∨ x ∈ seen') ↔ (x < low ∨ x ∈ seen ∨ x = n)) := by
  have hp := sortI_perm (seen ++ [n])
  have hlen : (sortI (seen ++ [n])).length = seen.length + 1 := by rw [hp.length_eq]; simp
  have hmem : ∀ x, x ∈ sortI (seen ++ [n]) ↔ (x ∈ seen ∨ x = n) := fun x => by rw [hp.mem_iff]; simp
  have hlt : ∀ x ∈ sortI (seen ++ [n]), x < 250 := fun x hx' => by
    rcases (hmem x).1 hx' with h | h
    · exact hx x h
    · omega
  have hinc : inc (low - 1) (sortI (seen ++ [n])) := by
    refine sorted_inc (sortI_sorted _) (hp.nodup_iff.2 ?_) fun x hx' => ?_
    · rw [List.nodup_append]
      exact ⟨inc_nodup hi, by simp, fun a ha b hb => by simp at hb; subst hb; exact fun e => hin (e ▸ ha)⟩
    · rcases (hmem x).1 hx' with h | h
      · have := inc_lt hi x h; omega
      · omega
  obtain ⟨l', low', e1, e2, e3, e4, e5⟩ := accept_l2 FUEL _ low (by rw [hlen]; unfold FUEL; omega) hinc h0 hlt h1
  have hl1 : window_Accept_l1 FUEL (sortI (seen ++ [n])) low = some (sortI (seen ++ [n]), low) := by
    unfold FUEL
    rw [window_Accept_l1]
    have : decide (32 < ((sortI (seen ++ [n])).length : Int)) = false := by rw [hlen]; simp; omega
    rw [this, cond_false]
  have hlt' : ∀ x ∈ l', x < 250 := fun x hx' => by
    rcases (e5 x).1 (.inr hx') with h | h
    · omega
    · exact hlt x h
  have hl' : l'.length ≤ 100000 := by
    by_cases h : low' < 250
    · have := inc_len e2 hlt' h; omega
    · cases l' with
      | nil => simp
      | cons y l' => have := hlt' y (by simp); have := e2.1; omega
  refine ⟨low', l', ?_, e2, e3, e4, hlt', fun x => by rw [e5 x, hmem x]⟩
  unfold window_Accept
  rw [right_eq h0 (by omega) (inc_mono hi (by omega)) (fun x hx' => by have := hx x hx'; omega) (by omega)]
  have e : decide (2147483647 < n) = false := by simp; omega
  have e6 : decide (n < low) = false := by simpa using hlow
  have e7 : lim (seen.length + 1) = true := by simp [lim]; omega
  have e8 : slices_Sort_int (seen ++ [n]) = some (sortI (seen ++ [n])) := by
    unfold slices_Sort_int
    have : (decide (0 < (seen ++ [n]).length) && lim (seen ++ [n]).length) = true := by simp [lim]; omega
    rw [this, cond_true]
  simp only [Option.bind_some, contains_eq, clone_int seen (by omega), e, e6, hin, decide_false, Bool.not_true, Bool.or_false, cond_false, List.length_singleton, e7, cond_true, e8, hl1, e1, clone_int l' hl']
end Go.Sw.PO

/- PortOnce, the plain law: act. -/
import Derived.Test.YtahaedoeckgidaaZtP5
set_option linter.unusedVariables false
set_option linter.unusedSimpArgs false
set_option maxRecDepth 100000
namespace Go.Sw.PO
theorem cb_t {b : Bool} {α : Type} {x y z : α} (hp : b = true) (h : x = z) : (bif b then x else y) = z := by rw [hp]; exact h
theorem cb_f {b : Bool} {α : Type} {x y z : α} (hp : b = false) (h : y = z) : (bif b then x else y) = z := by rw [hp]; exact h
theorem text_eq {s : Nat} (h : s ≤ 250) : switchboardlaw23_text (s : Int) = some (tx s) := by
  unfold switchboardlaw23_text
  have : u8w (s : Int) = (s : Int) := by
    have e : (2 : Int) ^ IntKind.u8.bits = 256 := by decide
    have e3 : IntKind.u8.signed = false := rfl
    unfold u8w IntKind.wrap
    simp only [e, e3, Bool.false_and, Bool.false_eq_true, if_false]
    omega
  rw [this]
  simp [bstr, tx]
theorem act0 {a : A} (h : Inv a) (i : Int) : ∃ a', switchboardlaw23_act (conc a) 0 i = some (conc a') ∧ Inv a' := by
  have hs := h.s
  have ht := h.thl
  have hsend := send_eq a.s a.qs ⟨0, []⟩ hs h.q h.ql (by have := h.qlen; omega)
  have k0 : ((0 : Int) == 0) = true := by decide
  have k8 : ((8 : Int) == 0) = false := by decide
  have hsc : ∃ c : Bool, (c = true → ∀ q qs, a.qs = q :: qs → a.s < q + 32) ∧ port_Send ⟨⟨a.s, a.qs.map fr⟩, ⟨0, []⟩⟩ (tx a.s) = some (bif c then (⟨⟨((a.s + 1 : Nat) : Int), (a.qs ++ [a.s]).map fr⟩, ⟨0, []⟩⟩, dm a.s, 0) else (⟨⟨a.s, a.qs.map fr⟩, ⟨0, []⟩⟩, [], 8)) := by
    refine ⟨_, fun hc q qs hq => ?_, hsend⟩
    rw [hq] at hc
    simpa [sc] using hc
  obtain ⟨c, hc, hsend⟩ := hsc
  unfold switchboardlaw23_act
  refine ⟨if c = true ∧ a.s < 250 ∧ a.ths.length < 300 then sn a else a, ?_⟩
  cases c with
  | false =>
    rw [if_neg (by simp)]
    refine ⟨?_, h⟩
    simp only [cond_false] at hsend
    refine cb_t k0 ?_
    show ((switchboardlaw23_text (a.s : Int)).bind fun t19 => _) = _
    rw [text_eq hs]
    simp only [Option.bind_some]
    show ((port_Send ⟨⟨a.s, a.qs.map fr⟩, ⟨0, []⟩⟩ (tx a.s)).bind fun t24 => _) = _
    rw [hsend]
    simp only [Option.bind_some]
    exact cb_f rfl rfl
  | true =>
    simp only [cond_true] at hsend
    by_cases h1 : a.s < 250 ∧ a.ths.length < 300
    · rw [if_pos ⟨rfl, h1⟩]
      have hw : ∀ n ∈ a.qs, a.s < n + 32 := fun n hn => by
        cases hq : a.qs with
        | nil => rw [hq] at hn; cases hn
        | cons q qs =>
          have h5 := h.q
          have h4 := hc rfl q qs hq
          rw [hq] at hn h5
          have := head_le h5 n hn
          omega
      refine ⟨?_, sn_inv h h1.1 hw h1.2⟩
      have e1 : (a.s : Int) < 250 := by omega
      have e2 : ((a.ths.map dm).length : Int) < 300 := by rw [List.length_map]; omega
      have c6 : lim (([] : List Str).length + (a.ths.map dm).length) = true := by simp [lim]; omega
      have c7 : lim ((([] : List Str) ++ a.ths.map dm).length + [dm a.s].length) = true := by simp [lim]; omega
      have c8 : i64w ((a.s : Int) + 1) = ((a.s + 1 : Nat) : Int) := by rw [i64w_id (by omega) (by omega)]; simp
      refine cb_t k0 ?_
      show ((switchboardlaw23_text (a.s : Int)).bind fun t19 => _) = _
      rw [text_eq hs]
      simp only [Option.bind_some]
      show ((port_Send ⟨⟨a.s, a.qs.map fr⟩, ⟨0, []⟩⟩ (tx a.s)).bind fun t24 => _) = _
      rw [hsend]
      simp only [Option.bind_some]
      refine cb_t (by rw [Bool.and_eq_true, Bool.and_eq_true]; exact ⟨⟨rfl, decide_eq_true e1⟩, decide_eq_true e2⟩) ?_
      refine cb_t c6 (cb_t c7 ?_)
      have hm : (a.ths ++ [a.s]).map dm = ([] ++ a.ths.map dm) ++ [dm a.s] := by simp
      show some _ = some _
      congr 1
      simp only [conc, sn, hm]
      congr 1
    · rw [if_neg (fun hh => h1 hh.2)]
      refine ⟨?_, h⟩
      refine cb_t k0 ?_
      show ((switchboardlaw23_text (a.s : Int)).bind fun t19 => _) = _
      rw [text_eq hs]
      simp only [Option.bind_some]
      show ((port_Send ⟨⟨a.s, a.qs.map fr⟩, ⟨0, []⟩⟩ (tx a.s)).bind fun t24 => _) = _
      rw [hsend]
      simp only [Option.bind_some]
      refine cb_f ?_ rfl
      by_cases h2 : a.s < 250
      · have e2 : ¬ ((a.ths.map dm).length : Int) < 300 := by rw [List.length_map]; omega
        rw [Bool.and_eq_false_iff]; exact .inr (decide_eq_false e2)
      · have e2 : ¬ (a.s : Int) < 250 := by omega
        rw [Bool.and_eq_false_iff, Bool.and_eq_false_iff]; exact .inl (.inr (decide_eq_false e2))
end Go.Sw.PO

/- PortOnce, the plain law: the loops. -/
import Derived.Test.YtahaedoeckgidaaZtP9
set_option linter.unusedVariables false
set_option linter.unusedSimpArgs false
set_option maxRecDepth 100000
namespace Go.Sw.PO
theorem l2_ok {a : A} (h : Inv a) : ∀ (m i : Nat), i + m ≤ 256 → switchboardlaw23_PortOnce_l2 (conc a) m i = some (.out ())
  | 0, i, _ => rfl
  | m + 1, i, hm => by
    rw [switchboardlaw23_PortOnce_l2]
    have e0 : inb (i : Int) 256 = true := by simp [inb]; omega
    have hg : at0 (conc a).got (i : Int) = if isIn a.low a.seen (i : Int) then 1 else 0 := got_at (by omega)
    have e1 : ¬ 1 < at0 (conc a).got (i : Int) := by rw [hg]; split <;> omega
    have e2 : ¬ (0 < at0 (conc a).got (i : Int) ∧ (conc a).sent ≤ (i : Int)) := by
      rw [hg]
      rintro ⟨h1, h2⟩
      have h2' : (a.s : Int) ≤ i := h2
      split at h1
      · next hr =>
        rcases hr with hr | hr
        · have := h.low1; omega
        · have := h.seenl _ hr; omega
      · omega
    refine cb_t e0 (bif_f e1 (cb_t e0 (cb_f ?_ (l2_ok h m (i + 1) (by omega)))))
    cases hb : (decide (0 < at0 (conc a).got (i : Int)) && decide ((conc a).sent ≤ (i : Int))) with
    | false => rfl
    | true => rw [Bool.and_eq_true] at hb; exact absurd ⟨of_decide_eq_true hb.1, of_decide_eq_true hb.2⟩ e2
end Go.Sw.PO

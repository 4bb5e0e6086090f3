/- PortOnce, the plain law: act, every kind. -/
import Derived.Test.YtahaedoeckgidaaZtP7
set_option linter.unusedVariables false
set_option linter.unusedSimpArgs false
set_option maxRecDepth 100000
namespace Go.Sw.PO
theorem act1 {a : A} (h : Inv a) (i : Int) (hi : 0 ≤ i) : ∃ a', switchboardlaw23_act (conc a) 1 i = some (conc a') ∧ Inv a' := by
  obtain ⟨a', e, ia⟩ := deliver_any h i hi ((1 : Int) == 2)
  refine ⟨a', ?_, ia⟩
  unfold switchboardlaw23_act
  refine cb_f rfl (cb_t rfl ?_)
  rw [e]; rfl
theorem act2 {a : A} (h : Inv a) (i : Int) (hi : 0 ≤ i) : ∃ a', switchboardlaw23_act (conc a) 2 i = some (conc a') ∧ Inv a' := by
  obtain ⟨a', e, ia⟩ := deliver_any h i hi ((2 : Int) == 2)
  refine ⟨a', ?_, ia⟩
  unfold switchboardlaw23_act
  refine cb_f rfl (cb_f rfl (cb_t rfl ?_))
  rw [e]; rfl
theorem act4 {a : A} (h : Inv a) (i : Int) (hi : 0 ≤ i) : ∃ a', switchboardlaw23_act (conc a) 4 i = some (conc a') ∧ Inv a' := by
  obtain ⟨a', e, ia⟩ := tell_any h i hi
  refine ⟨a', ?_, ia⟩
  unfold switchboardlaw23_act
  refine cb_f rfl (cb_f rfl (cb_f rfl (cb_f rfl (cb_t rfl ?_))))
  rw [e]; rfl
theorem len_nz {l : List Str} (h : 0 < l.length) : ((l.length : Int) != 0) = true := by
  rw [bne_iff_ne]; omega
theorem act3 {a : A} (h : Inv a) (i : Int) (hi : 0 ≤ i) : ∃ a', switchboardlaw23_act (conc a) 3 i = some (conc a') ∧ Inv a' := by
  by_cases hl : 0 < a.ths.length
  · refine ⟨_, ?_, h.erTh (i.toNat % a.ths.length)⟩
    have ht := h.thl
    have e0 : 0 < ((a.ths.map dm).length : Int) := by rw [List.length_map]; omega
    have e1 : Int.tmod i ((a.ths.map dm).length : Int) = ((i.toNat % a.ths.length : Nat) : Int) := by rw [List.length_map, tmod_nat hi hl]
    have e2 : switchboardref08_Without (a.ths.map dm) ((i.toNat % a.ths.length : Nat) : Int) = some ((a.ths.eraseIdx (i.toNat % a.ths.length)).map dm) := by rw [without_eq _ _ (by simp; omega), map_erase]
    unfold switchboardlaw23_act
    refine cb_f rfl (cb_f rfl (cb_f rfl (cb_t rfl (bif_t e0 (cb_t (len_nz (by simpa [conc] using hl)) ?_)))))
    show ((switchboardref08_Without (a.ths.map dm) (Int.tmod i ((a.ths.map dm).length : Int))).bind fun t140 => _) = _
    rw [e1, e2]; rfl
  · refine ⟨a, ?_, h⟩
    have e0 : ¬ 0 < ((a.ths.map dm).length : Int) := by rw [List.length_map]; omega
    unfold switchboardlaw23_act
    exact cb_f rfl (cb_f rfl (cb_f rfl (cb_t rfl (bif_f e0 rfl))))
end Go.Sw.PO

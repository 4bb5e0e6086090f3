/- PortOnce, the plain law: act, the rest. -/
import Derived.Test.YtahaedoeckgidaaZtP8
set_option linter.unusedVariables false
set_option linter.unusedSimpArgs false
set_option maxRecDepth 100000
namespace Go.Sw.PO
theorem act5 {a : A} (h : Inv a) (i : Int) (hi : 0 ≤ i) : ∃ a', switchboardlaw23_act (conc a) 5 i = some (conc a') ∧ Inv a' := by
  by_cases hl : 0 < a.bks.length
  · refine ⟨_, ?_, h.erBk (i.toNat % a.bks.length)⟩
    have ht := h.bkl
    have e0 : 0 < ((a.bks.map am).length : Int) := by rw [List.length_map]; omega
    have e1 : Int.tmod i ((a.bks.map am).length : Int) = ((i.toNat % a.bks.length : Nat) : Int) := by rw [List.length_map, tmod_nat hi hl]
    have e2 : switchboardref08_Without (a.bks.map am) ((i.toNat % a.bks.length : Nat) : Int) = some ((a.bks.eraseIdx (i.toNat % a.bks.length)).map am) := by rw [without_eq _ _ (by simp; omega), map_erase]
    unfold switchboardlaw23_act
    refine cb_f rfl (cb_f rfl (cb_f rfl (cb_f rfl (cb_f rfl (cb_t rfl (bif_t e0 (cb_t (len_nz (by simpa [conc] using hl)) ?_)))))))
    show ((switchboardref08_Without (a.bks.map am) (Int.tmod i ((a.bks.map am).length : Int))).bind fun t140 => _) = _
    rw [e1, e2]; rfl
  · refine ⟨a, ?_, h⟩
    have e0 : ¬ 0 < ((a.bks.map am).length : Int) := by rw [List.length_map]; omega
    unfold switchboardlaw23_act
    exact cb_f rfl (cb_f rfl (cb_f rfl (cb_f rfl (cb_f rfl (cb_t rfl (bif_f e0 rfl))))))
theorem act6 {a : A} (h : Inv a) (i : Int) : ∃ a', switchboardlaw23_act (conc a) 6 i = some (conc a') ∧ Inv a' := by
  by_cases hl : a.ths.length < 200
  · refine ⟨_, ?_, h.again hl⟩
    have hq := h.qlen
    have e0 : ((a.ths.map dm).length : Int) < 200 := by rw [List.length_map]; omega
    have c6 : lim (([] : List Str).length + (a.ths.map dm).length) = true := by simp [lim]; omega
    have c7 : lim ((([] : List Str) ++ a.ths.map dm).length + (a.qs.map dm).length) = true := by simp [lim]; omega
    have e1 := again_eq ⟨⟨a.s, a.qs.map fr⟩, ⟨0, []⟩⟩ a.qs rfl (fun n hn => by have := h.ql n hn; have := h.s; omega) (by omega)
    have hm : (a.ths ++ a.qs).map dm = ([] ++ a.ths.map dm) ++ a.qs.map dm := by simp
    unfold switchboardlaw23_act
    refine cb_f rfl (cb_f rfl (cb_f rfl (cb_f rfl (cb_f rfl (cb_f rfl (cb_t rfl (bif_t e0 (cb_t c6 ?_))))))))
    show ((port_Again ⟨⟨a.s, a.qs.map fr⟩, ⟨0, []⟩⟩).bind fun t243 => _) = _
    rw [e1]
    refine cb_t c7 ?_
    simp only [conc, hm]
  · refine ⟨a, ?_, h⟩
    have e0 : ¬ ((a.ths.map dm).length : Int) < 200 := by rw [List.length_map]; omega
    unfold switchboardlaw23_act
    exact cb_f rfl (cb_f rfl (cb_f rfl (cb_f rfl (cb_f rfl (cb_f rfl (cb_t rfl (bif_f e0 rfl)))))))
theorem act_ok {a : A} (h : Inv a) (kind i : Int) (h0 : 0 ≤ kind) (h7 : kind < 7) (hi : 0 ≤ i) : ∃ a', switchboardlaw23_act (conc a) kind i = some (conc a') ∧ Inv a' := by
  have : kind = 0 ∨ kind = 1 ∨ kind = 2 ∨ kind = 3 ∨ kind = 4 ∨ kind = 5 ∨ kind = 6 := by omega
  rcases this with rfl | rfl | rfl | rfl | rfl | rfl | rfl
  · exact act0 h i
  · exact act1 h i hi
  · exact act2 h i hi
  · exact act3 h i hi
  · exact act4 h i hi
  · exact act5 h i hi
  · exact act6 h i
end Go.Sw.PO

/- PortOnce, the plain law: act, every kind. -/
import Derived.Test.YtahaedoeckgidaaZtP6
set_option linter.unusedVariables false
set_option linter.unusedSimpArgs false
set_option maxRecDepth 100000
namespace Go.Sw.PO
theorem Inv.erTh {a : A} (h : Inv a) (k : Nat) : Inv { a with ths := a.ths.eraseIdx k } :=
  ⟨h.s, h.q, h.ql, h.w, h.low0, h.low1, h.seen, h.seenl, h.ack, fun m hm => h.th m (List.mem_of_mem_eraseIdx hm), h.bk, Nat.le_trans (List.length_eraseIdx_le a.ths k) h.thl, h.bkl⟩
theorem Inv.erBk {a : A} (h : Inv a) (k : Nat) : Inv { a with bks := a.bks.eraseIdx k } :=
  ⟨h.s, h.q, h.ql, h.w, h.low0, h.low1, h.seen, h.seenl, h.ack, h.th, fun m hm => h.bk m (List.mem_of_mem_eraseIdx hm), h.thl, Nat.le_trans (List.length_eraseIdx_le a.bks k) h.bkl⟩
theorem Inv.again {a : A} (h : Inv a) (hl : a.ths.length < 200) : Inv { a with ths := a.ths ++ a.qs } :=
  ⟨h.s, h.q, h.ql, h.w, h.low0, h.low1, h.seen, h.seenl, h.ack, fun m hm => (List.mem_append.1 hm).elim (h.th m) (h.ql m), h.bk, by have := h.qlen; simp; omega, h.bkl⟩
theorem deliver_any {a : A} (h : Inv a) (i : Int) (hi : 0 ≤ i) (tw : Bool) : ∃ a', switchboardlaw23_deliver (conc a) i tw = some (conc a') ∧ Inv a' := by
  by_cases hn : a.ths = []
  · exact ⟨a, deliver_nil hn i tw, h⟩
  · have hl : 0 < a.ths.length := List.length_pos_iff.2 hn
    obtain ⟨low', seen', e1, e2⟩ := deliver_ok h i hi tw rfl (List.getElem?_eq_getElem (Nat.mod_lt i.toNat hl))
    exact ⟨_, e1, e2⟩
theorem tell_any {a : A} (h : Inv a) (i : Int) (hi : 0 ≤ i) : ∃ a', switchboardlaw23_tell (conc a) i = some (conc a') ∧ Inv a' := by
  by_cases hn : a.bks = []
  · exact ⟨a, tell_nil hn i, h⟩
  · have hl : 0 < a.bks.length := List.length_pos_iff.2 hn
    have hk := List.getElem?_eq_getElem (Nat.mod_lt i.toNat hl)
    exact ⟨_, tell_ok h i hi rfl hk, tl_inv h hk⟩
end Go.Sw.PO

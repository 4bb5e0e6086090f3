/- The statement PortOnce is proved, for every list of acts that a call can be handed: no further condition. -/
import Derived.Test.YtahaedoeckgidaaZtC4
import Derived.Test.YtahaedoeckgidaaZtPd
import Derived.Test.YtahaedoeckgidaaSwOpen
import Derived.Test.YtahaedoeckgidaaRows
namespace Go.Proofs.Ytahaedoeckgidaa
open Go.ChangeShapes Go.WideShapes Go.ChangeAt Go.RowKit
open Go.Sw (Opens opens_sl opens_arr opens_int allH allH_sub Ok)
set_option linter.unusedVariables false

theorem own : ownKnob Try.prog.godebug = none := by kernel_rfl
theorem laidOut : laidOutB Try.prog = true := by kernel_rfl
/-- What a reading of the acts tells. -/
def actsOk (p : List (List Int)) : Prop := p.length ≤ maxLen ∧ ∀ x ∈ p, x.length = 2 ∧ ∀ n ∈ x, (Lit.int .u8 n).wf = true
theorem acts_open : Opens (Go.Sw.eSl (Go.Sw.eArr 2 (Go.Sw.eInt .u8))) Try.prog 22 actsOk :=
  opens_sl Try.underlying22 (by kernel_rfl) (by decide) (opens_arr Try.underlying36 (by kernel_rfl) (by kernel_rfl) (opens_int Try.underlying5))
set_option maxRecDepth 100000 in
theorem lifted (os : Os) (started : os.Started) (H : Type) (enc : TypeId × Value → H) :
    ReturnsInHanded {} Try.checked os 3 .any (Rows.portOnceSpec.pre6 enc Try.prog Try.f3 Rows.portOnceRow.domain false) (Rows.portOnceSpec.post enc Try.prog Try.f3 false true false false) := by
  refine returnsInHanded_of_change (C := Try.checked) own started (by kernel_rfl) Try.func3
    (ChangeSpec.witness6 (enc := enc) (C := Try.checked) false ⟨#[], #[.slice none 0 0], []⟩ 8 (by kernel_rfl) (by kernel_rfl) (by kernel_rfl) (by kernel_rfl)) ?_
  intro W base args ds gs before hval0 hW hcnd _
  have hval : ∀ (j : Nat) t v, Try.f3.params[j]? = some t → args[j]? = some v → Value.okWide Try.prog W .any base t v := hval0
  have hW' := hW
  obtain ⟨p, q, hA0, hV, rfl, hfz, hnd⟩ := hW
  have hA : DataW.TrodAll enc Try.prog W 0 (fun _ => true) true Try.f3.params.toList args.toList ds p := hA0
  rw [Try.params3] at hA hval
  obtain ⟨v0, vs0, d0, ds0, p0, q0, hargs, rfl, rfl, h0, r0⟩ := trodAll_cons hA
  obtain ⟨rfl, rfl, rfl⟩ := trodAll_nil r0
  obtain rfl : args = #[v0] := by cases args; simp_all
  obtain ⟨rfl, rfl⟩ := trodVars_none hV
  have k0 := h0
  have lt0 : ∀ x ∈ p0, x.block < W.heap.size := by obtain ⟨m, hm⟩ := k0; exact DataW.trod_lt m _ _ _ hm
  obtain ⟨y0, ⟨A, c, hv, hrs⟩, hy⟩ : ∃ y, (Go.Sw.eSl (Go.Sw.eArr 2 (Go.Sw.eInt .u8))).rep (allH W) v0.cells.toList y ∧ actsOk y := by
    obtain ⟨fuel, hf⟩ := h0
    exact acts_open H enc W 0 _ true fuel _ _ hf
  obtain ⟨a0, len0, cap0, rfl⟩ := okWide_slice Try.underlying22 (hval 0 22 v0 rfl rfl)
  simp [Value.cells] at hv
  obtain ⟨rfl, rfl, rfl⟩ := hv
  clear hA0 hval0
  refine (Ok.law (Go.Sw.switchboardlaw23_PortOnce_ok (allH_sub W) hrs (Go.Sw.PO.plain hy.2))).mono fun e W' ⟨he, bel⟩ => ?_
  subst he
  exact ⟨_, rfl, _, _, _, [], _, [], hW', trodAll_mk1 (shut_bool Try.underlying4 _), (trodAll_cons_mk (Below.trod laidOut (by kernel_rfl) (of_decide_eq_true (by kernel_rfl)) k0 bel lt0) trodAll_mk0), rfl, bel.frame _, fun h => by cases h⟩

theorem holds : Rows.PortOnceSaid :=
  OpenClaim.holds_of_wide 3 Try.f3 rfl rfl rfl rfl rfl rfl rfl ⟨rfl, rfl, rfl, rfl, rfl⟩ rfl rfl rfl rfl rfl (by kernel_rfl) Try.func3 (by kernel_rfl)
    (of_decide_eq_true (by kernel_rfl)) (by unfold Func.isWrapper; first | (rw [if_pos (by decide +kernel)]; kernel_rfl) | (rw [if_neg (by decide +kernel)]; exact ⟨rfl, rfl⟩))
    (fun os started H enc _ => lifted os started H enc)
end Go.Proofs.Ytahaedoeckgidaa
#print axioms Go.Proofs.Ytahaedoeckgidaa.holds

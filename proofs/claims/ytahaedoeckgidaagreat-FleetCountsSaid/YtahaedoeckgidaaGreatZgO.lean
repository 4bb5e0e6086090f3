/- What the fleet's laws are handed. -/
import Derived.Test.YtahaedoeckgidaaGreatZgM
import Derived.Test.YtahaedoeckgidaaGreatSwOpens
import Derived.Test.YtahaedoeckgidaaGreatRows
namespace Go.Proofs.YtahaedoeckgidaaGreat
open Go.Sw
set_option linter.unusedVariables false
theorem own : ownKnob Tryz.prog.godebug = none := by kernel_rfl
theorem laidOut : laidOutB Tryz.prog = true := by kernel_rfl
theorem o_int : Opens (eInt .i64) Tryz.prog 3 (fun _ => True) := (opens_int Tryz.underlying3).any
theorem o_ints : Opens (eSl (eInt .i64)) Tryz.prog 61 (fun _ => True) := (opens_sl Tryz.underlying61 (by kernel_rfl) (by decide) o_int).any
theorem o_rows : Opens (eSl (eSl (eInt .i64))) Tryz.prog 25 (fun _ => True) := (opens_sl Tryz.underlying25 (by kernel_rfl) (by decide) o_ints).any
theorem o_exp : Opens eApiExpert Tryz.prog 50 (fun _ => True) := opens_st2 Tryz.underlying50 o_rows o_rows rfl rfl (by kernel_rfl) (by kernel_rfl) (by kernel_rfl) (fun H a b x y ⟨A, c, e, h⟩ ⟨A', c', e', h'⟩ => ⟨⟨x, y⟩, A, c, A', c', by rw [e, e']; rfl, h, h'⟩)
theorem o_exps : Opens (eSl eApiExpert) Tryz.prog 39 (fun _ => True) := (opens_sl Tryz.underlying39 (by kernel_rfl) (by decide) o_exp).any
theorem o_lay : Opens eApiLayer Tryz.prog 41 (fun _ => True) := opens_st3 Tryz.underlying41 o_rows o_exps o_int rfl rfl rfl (by kernel_rfl) (by kernel_rfl) (by kernel_rfl) (by kernel_rfl) (fun H a b c x y z ⟨A, k, e, h⟩ ⟨A', k', e', h'⟩ e2 => ⟨⟨x, y, z⟩, A, k, A', k', by rw [e, e', e2]; rfl, h, h'⟩)
theorem o_lays : Opens (eSl eApiLayer) Tryz.prog 22 (fun _ => True) := (opens_sl Tryz.underlying22 (by kernel_rfl) (by decide) o_lay).any
theorem o_mod : Opens eApiModel Tryz.prog 24 (fun _ => True) := opens_st2 Tryz.underlying24 o_int o_lays rfl rfl (by kernel_rfl) (by kernel_rfl) (by kernel_rfl) (fun H a b x y e ⟨A', c', e', h'⟩ => ⟨⟨x, y⟩, A', c', by rw [e, e']; rfl, h'⟩)
theorem o_map : Opens ePlaceMap Tryz.prog 27 (fun _ => True) := opens_st2 Tryz.underlying27 o_int o_rows rfl rfl (by kernel_rfl) (by kernel_rfl) (by kernel_rfl) (fun H a b x y e ⟨A', c', e', h'⟩ => ⟨⟨x, y⟩, A', c', by rw [e, e']; rfl, h'⟩)
end Go.Proofs.YtahaedoeckgidaaGreat

/- The statement FleetCounts is proved, for everything that a call can be handed: no further condition. -/
import Derived.Test.YtahaedoeckgidaaGreatZgO
import Derived.Test.YtahaedoeckgidaaGreatZgC16
import Derived.Test.YtahaedoeckgidaaGreatPlQ
namespace Go.Proofs.YtahaedoeckgidaaGreat
open Go.ChangeShapes Go.WideShapes Go.ChangeAt Go.RowKit
open Go.Sw (Opens allH allH_sub Ok)
set_option linter.unusedVariables false
set_option maxRecDepth 100000 in
theorem lifted (os : Os) (started : os.Started) (H : Type) (enc : TypeId × Value → H) :
  ReturnsInHanded {} Tryz.checked os 3 .any (Rows.fleetCountsSpec.pre6 enc Tryz.prog Tryz.f3 Rows.fleetCountsRow.domain false) (Rows.fleetCountsSpec.post enc Tryz.prog Tryz.f3 false true false false) := by
 refine returnsInHanded_of_change (C := Tryz.checked) own started (by kernel_rfl) Tryz.func3
  (ChangeSpec.witness6 (enc := enc) (C := Tryz.checked) false ⟨#[], #[.agg #[.int .i64 0, .slice none 0 0], .agg #[.int .i64 0, .slice none 0 0], .slice none 0 0], []⟩ 8 (by kernel_rfl) (by kernel_rfl) (by kernel_rfl) (by kernel_rfl)) ?_
 intro W base args ds gs before hval0 hW hcnd _
 have hval : ∀ (j : Nat) t v, Tryz.f3.params[j]? = some t → args[j]? = some v → Value.okWide Tryz.prog W .any base t v := hval0
 have hW' := hW
 obtain ⟨p, q, hA0, hV, rfl, hfz, hnd⟩ := hW
 have hA : DataW.TrodAll enc Tryz.prog W 0 (fun _ => true) true Tryz.f3.params.toList args.toList ds p := hA0
 rw [Tryz.params3] at hA hval
 obtain ⟨v0, vs0, d0, ds0, p0, q0, hargs, rfl, rfl, h0, r0⟩ := trodAll_cons hA
 obtain ⟨v1, vs1, d1, ds1, p1, q1, rfl, rfl, rfl, h1, r1⟩ := trodAll_cons r0
 obtain ⟨v2, vs2, d2, ds2, p2, q2, rfl, rfl, rfl, h2, r2⟩ := trodAll_cons r1
 obtain ⟨rfl, rfl, rfl⟩ := trodAll_nil r2
 obtain rfl : args = #[v0, v1, v2] := by cases args; simp_all
 obtain ⟨rfl, rfl⟩ := trodVars_none hV
 have k0 := h0
 have lt0 : ∀ x ∈ p0, x.block < W.heap.size := by obtain ⟨m, hm⟩ := k0; exact DataW.trod_lt m _ _ _ hm
 have k1 := h1
 have lt1 : ∀ x ∈ p1, x.block < W.heap.size := by obtain ⟨m, hm⟩ := k1; exact DataW.trod_lt m _ _ _ hm
 have k2 := h2
 have lt2 : ∀ x ∈ p2, x.block < W.heap.size := by obtain ⟨m, hm⟩ := k2; exact DataW.trod_lt m _ _ _ hm
 obtain ⟨y0, A0, c0, e0, hr0⟩ : ∃ y, Go.Sw.eApiModel.rep (allH W) v0.cells.toList y := by
  obtain ⟨fuel, hf⟩ := h0
  obtain ⟨y, hy, _⟩ := o_mod H enc W 0 _ true fuel _ _ hf
  exact ⟨y, hy⟩
 obtain ⟨y1, A1, c1, e1, hr1⟩ : ∃ y, Go.Sw.ePlaceMap.rep (allH W) v1.cells.toList y := by
  obtain ⟨fuel, hf⟩ := h1
  obtain ⟨y, hy, _⟩ := o_map H enc W 0 _ true fuel _ _ hf
  exact ⟨y, hy⟩
 obtain ⟨y2, A2, c2, e2, hr2⟩ : ∃ y, (Go.Sw.eSl (Go.Sw.eSl (Go.Sw.eInt .i64))).rep (allH W) v2.cells.toList y := by
  obtain ⟨fuel, hf⟩ := h2
  obtain ⟨y, hy, _⟩ := o_rows H enc W 0 _ true fuel _ _ hf
  exact ⟨y, hy⟩
 obtain ⟨a0, rfl, _⟩ := okWide_struct Tryz.underlying24 (hval 0 24 v0 rfl rfl)
 obtain ⟨l0⟩ := a0
 have g0 : l0 = [.int .i64 y0.Dim, .slice A0 y0.Layers.length c0] := e0
 subst g0
 obtain ⟨a1, rfl, _⟩ := okWide_struct Tryz.underlying27 (hval 1 27 v1 rfl rfl)
 obtain ⟨l1⟩ := a1
 have g1 : l1 = [.int .i64 y1.Epoch, .slice A1 y1.Holders.length c1] := e1
 subst g1
 obtain ⟨a2, len2, cap2, rfl⟩ := okWide_slice Tryz.underlying25 (hval 2 25 v2 rfl rfl)
 simp [Value.cells] at e2
 obtain ⟨rfl, rfl, rfl⟩ := e2
 clear hA0 hval0
 refine (Ok.law (Go.Sw.switchboardlaw19_FleetCounts_ok (allH_sub W) hr0 hr1 hr2 (Go.Sw.FL.fleetCounts_eq _ _ _))).mono fun e W' ⟨he, bel⟩ => ?_
 subst he
 exact ⟨_, rfl, _, _, _, [], _, [], hW', trodAll_mk1 (shut_bool Tryz.underlying4 _), (trodAll_cons_mk (Below.trod laidOut (by kernel_rfl) (of_decide_eq_true (by kernel_rfl)) k0 bel lt0) (trodAll_cons_mk (Below.trod laidOut (by kernel_rfl) (of_decide_eq_true (by kernel_rfl)) k1 bel lt1) (trodAll_cons_mk (Below.trod laidOut (by kernel_rfl) (of_decide_eq_true (by kernel_rfl)) k2 bel lt2) trodAll_mk0))), rfl, bel.frame _, fun h => by cases h⟩
theorem holds : Rows.FleetCountsSaid :=
 OpenClaim.holds_of_wide 3 Tryz.f3 rfl rfl rfl rfl rfl rfl rfl ⟨rfl, rfl, rfl, rfl, rfl⟩ rfl rfl rfl rfl rfl (by kernel_rfl) Tryz.func3 (by kernel_rfl)
  (of_decide_eq_true (by kernel_rfl)) (by unfold Func.isWrapper; first | (rw [if_pos (by decide +kernel)]; kernel_rfl) | (rw [if_neg (by decide +kernel)]; exact ⟨rfl, rfl⟩))
  (fun os started H enc _ => lifted os started H enc)
end Go.Proofs.YtahaedoeckgidaaGreat
#print axioms Go.Proofs.YtahaedoeckgidaaGreat.holds

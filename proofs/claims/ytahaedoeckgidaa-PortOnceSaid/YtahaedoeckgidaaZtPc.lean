/- PortOnce, the plain law: the first loop. -/
import Derived.Test.YtahaedoeckgidaaZtPb
set_option linter.unusedVariables false
set_option linter.unusedSimpArgs false
set_option maxRecDepth 100000
namespace Go.Sw.PO
theorem l1_ok {p : List (List Int)} (hp : ∀ x ∈ p, x.length = 2 ∧ ∀ n ∈ x, (Lit.int .u8 n).wf = true) : ∀ (fuel j : Nat) (a : A), Inv a → j ≤ 300 → 300 - j < fuel →
    ∃ z a', switchboardlaw23_PortOnce_l1 p fuel (j : Int) (conc a) = some (.out (z, conc a')) ∧ Inv a'
  | 0, j, a, h, hj, hf => by omega
  | fuel + 1, j, a, h, hj, hf => by
    rw [switchboardlaw23_PortOnce_l1]
    by_cases hc : j < p.length ∧ j < 300
    · have e0 : inb (j : Int) p.length = true := by simp [inb]; omega
      have hx : at0 p (j : Int) = p[j] := by simp [at0, hc.1]
      obtain ⟨h2, h3⟩ := hp p[j] (List.getElem_mem hc.1)
      have b0 := u8_of (h3 (p[j][0]) (List.getElem_mem (by omega)))
      have b1 := u8_of (h3 (p[j][1]) (List.getElem_mem (by omega)))
      have x0 : at0 p[j] 0 = p[j][0] := by simp [at0, h2]
      have x1 : at0 p[j] 1 = p[j][1] := by simp [at0, h2]
      have k0 : i64w (Int.tmod (p[j][0]) 7) = Int.tmod (p[j][0]) 7 := i64w_id (by rw [Int.tmod_eq_emod_of_nonneg b0.1]; omega) (by rw [Int.tmod_eq_emod_of_nonneg b0.1]; omega)
      have k1 : i64w (p[j][1]) = p[j][1] := i64w_id (by omega) (by omega)
      obtain ⟨a', e, ia⟩ := act_ok h (Int.tmod (p[j][0]) 7) (p[j][1]) (by rw [Int.tmod_eq_emod_of_nonneg b0.1]; omega) (by rw [Int.tmod_eq_emod_of_nonneg b0.1]; omega) b1.1
      have kj : i64w ((j : Int) + 1) = ((j + 1 : Nat) : Int) := by rw [i64w_id (by omega) (by omega)]; simp
      obtain ⟨z, a'', e2, ia2⟩ := l1_ok hp fuel (j + 1) a' ia (by omega) (by omega)
      refine ⟨z, a'', ?_, ia2⟩
      refine cb_t (by rw [Bool.and_eq_true]; exact ⟨decide_eq_true (by omega), decide_eq_true (by omega)⟩) (cb_t e0 (cb_t e0 ?_))
      rw [hx, x0, x1, k0, k1, e]
      simp only [Option.bind_some]
      refine cb_t rfl ?_
      rw [l2_ok ia _ 0 (by decide)]
      simp only [Option.bind_some]
      rw [kj]; exact e2
    · refine ⟨_, a, cb_f ?_ rfl, h⟩
      rw [Bool.and_eq_false_iff]
      by_cases h1 : j < p.length
      · exact .inr (decide_eq_false (by omega))
      · exact .inl (decide_eq_false (by omega))
end Go.Sw.PO

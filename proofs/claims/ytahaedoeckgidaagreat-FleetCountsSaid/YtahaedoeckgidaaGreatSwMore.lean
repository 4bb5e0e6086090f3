/- Rules for structures built whole, slices cut. -/
import Derived.Test.YtahaedoeckgidaaGreatSwWalk
import Derived.Laws.Tables
set_option linter.unusedVariables false
set_option linter.unusedSimpArgs false
namespace Go.Sw
section
variable {P : Program} {n : Nat} {N : Cont} {r : Regs} {w : World} {ops : Array Oper} {rest : List Oper} {d : Nat} {dst : Option Tmp} {gd : Option (Nat × Bool)} {ty : TypeId} {pos : String} {after : Array Edge}
/-- The parts of a structure, with their values. -/
def Bp (r : Regs) : List (Nat × Operand) → List (Nat × Value) → Prop
 | [], [] => True
 | (i, x) :: ps, (j, v) :: vs => i = j ∧ rv r x = v ∧ Bp r ps vs
 | _, _ => False
theorem Bp.eq {r : Regs} : ∀ {ps : List (Nat × Operand)} {vs : List (Nat × Value)}, Bp r ps vs → ps.map (fun (i, x) => (i, rv r x)) = vs
 | [], [], _ => rfl
 | (i, x) :: ps, (j, v) :: vs, h => by
  obtain ⟨rfl, rfl, h⟩ := h
  simp [Bp.eq h]
 | [], _ :: _, h => h.elim
 | _ :: _, [], h => h.elim
theorem x_build {t : TypeId} {parts : Array (Nat × Operand)} (vs : List (Nat × Value)) (cs : List Value) (hp : Bp r parts.toList vs) (h : P.built t vs = some cs.toArray) :
  (execOp (rv r) ⟨dst, .build t parts, ty, pos, after, gd⟩).run P w = .ok (.value (.agg cs.toArray)) w := by
 have e : (parts.map fun (i, x) => (i, rv r x)).toList = vs := by rw [Array.toList_map]; exact hp.eq
 simp only [execOp, Sem.run_bind]
 rw [run_build w t _ cs.toArray (by rw [e]; exact h)]
 simp
theorem x_fun {fn : Fn} {captured : Array Operand} (cs : List Value) (h2 : captured.toList.map (rv r) = cs) :
  (execOp (rv r) ⟨dst, .makeFunc fn #[] captured, ty, pos, after, gd⟩).run P w = .ok (.value (.func fn #[] cs.toArray)) w := by
 have h : captured.map (rv r) = cs.toArray := by rw [← h2]; apply Array.ext'; simp
 simp [execOp, Instr.makeFunc, h]
end
end Go.Sw

/- Rules for the operations that only reckon. -/
import Derived.Test.YtahaedoeckgidaaGreatSwCore
import Derived.WalkKit
set_option linter.unusedVariables false
set_option linter.unusedSimpArgs false
namespace Go.Sw
/-- A text's value: its bytes as a list. -/
abbrev Str := List UInt8
def vs (s : Str) : Value := .string ⟨s.toArray⟩
def ibits (op : BinOp) (k : IntKind) (x y : Int) : Int :=
 let a := BitVec.ofInt k.bits x
 let b := BitVec.ofInt k.bits y
 match op with
 | .and => k.wrap (a &&& b).toNat
 | .or => k.wrap (a ||| b).toNat
 | .xor => k.wrap (a ^^^ b).toNat
 | _ => k.wrap (a &&& ~~~b).toNat
section
variable {P : Program} {n : Nat} {N : Cont} {r : Regs} {w : World} {ops : Array Oper} {rest : List Oper} {d : Nat} {dst : Option Tmp} {gd : Option (Nat × Bool)} {ty : TypeId} {pos : String} {after : Array Edge}
theorem Does.val {w' : World} {o : Oper} {ρ : Operand → Value} {v : Value} {K : Value → World → Prop} (h : (execOp ρ o).run P w = .ok (.value v) w') (hk : K v w') : Does P o ρ w K := by
 unfold Does; rw [h]; exact hk
/-- An operation that leaves a value, and the world as it was. -/
theorem WL.val {op : Op} {v : Value} (h : (execOp (rv r) ⟨some d, op, ty, pos, after, none⟩).run P w = .ok (.value v) w) (hk : WL P n ops rest N (upd r d v) w) (hd : Nat.blt d n = true := by rfl) :
  WL P n ops (⟨some d, op, ty, pos, after, none⟩ :: rest) N r w :=
 WL.op (fun v' w' => v' = v ∧ w' = w) (Does.val h ⟨rfl, rfl⟩) (fun v' w' ⟨h1, h2⟩ => by subst h1; subst h2; exact hk) hd
theorem x_move {x : Operand} (v : Value) (hx : rv r x = v) :
  (execOp (rv r) ⟨dst, .move x, ty, pos, after, gd⟩).run P w = .ok (.value (v)) w := (by simp [execOp, hx])
theorem x_assign {x : Operand} (v : Value) (hx : rv r x = v) :
  (execOp (rv r) ⟨dst, .assign x, ty, pos, after, gd⟩).run P w = .ok (.value (v)) w := (by simp [execOp, hx])
theorem x_pick {c x y : Operand} {b : Bool} (hc : rv r c = .bool b) (v : Value) (hv : (if b then rv r x else rv r y) = v) :
  (execOp (rv r) ⟨dst, .pick c x y, ty, pos, after, gd⟩).run P w = .ok (.value (v)) w := (by simp [execOp, hc, asBool, hv])
theorem x_pick_t {c x y : Operand} (hc : rv r c = .bool true) (v : Value) (hx : rv r x = v) :
  (execOp (rv r) ⟨dst, .pick c x y, ty, pos, after, gd⟩).run P w = .ok (.value (v)) w := (by simp [execOp, hc, asBool, hx])
theorem x_pick_f {c x y : Operand} (hc : rv r c = .bool false) (v : Value) (hx : rv r y = v) :
  (execOp (rv r) ⟨dst, .pick c x y, ty, pos, after, gd⟩).run P w = .ok (.value (v)) w := (by simp [execOp, hc, asBool, hx])
/-- A check that the mirror makes. -/
theorem chk {ρ : Type} {c : Bool} {B : Option ρ} {res : ρ} (h : (bif c then B else none) = some res) : c = true ∧ B = some res := by
 cases c
 ·cases h
 ·exact ⟨rfl, h⟩
/-- A guarded operation that only reckons: carried out or not. -/
theorem WL.gval {j t' : Nat} {b want : Bool} {op : Op} {v : Value} (hj : (ops[j]?).bind (·.dst) = some t') (hb : r t' = .bool b)
  (h : (b == want) = true → (execOp (rv r) ⟨some d, op, ty, pos, after, none⟩).run P w = .ok (.value v) w) (hk : WL P n ops rest N (upd r d (bif b == want then v else undef)) w)
  (ht : Nat.blt t' n = true := by rfl) (hd : Nat.blt d n = true := by rfl) : WL P n ops (⟨some d, op, ty, pos, after, some (j, want)⟩ :: rest) N r w := by
 cases hbw : b == want with
 | true =>
  have : b = want := by simpa using hbw
  subst this
  refine WL.yes hj hb (WL.val (h hbw) ?_ hd) ht
  simpa [hbw] using hk
 | false =>
  refine WL.no hj hb hbw ?_ ht hd
  simpa [hbw] using hk
theorem gv {b want : Bool} {v u : Value} (hb : (b == want) = true) : (bif b == want then v else u) = v := by rw [hb]; rfl
theorem pick_or {b c : Bool} {u : Value} : (if b = true then Value.bool true else (bif b == false then Value.bool c else u)) = .bool (b || c) := by cases b <;> rfl
theorem pick_and {b c : Bool} {u : Value} : (if b = true then (bif b == true then Value.bool c else u) else Value.bool false) = .bool (b && c) := by cases b <;> rfl
section ints
variable {x y : Operand} {xt yt : TypeId} {k : IntKind} {a b : Int}
theorem x_add (hx : rv r x = .int k a) (hy : rv r y = .int k b) :
  (execOp (rv r) ⟨dst, .binOp .add xt x y yt, ty, pos, after, gd⟩).run P w = .ok (.value ((.int k (k.wrap (a + b))))) w := (by simp [execOp, hx, hy, binOp, eqGuard, Op.intArith])
theorem x_sub (hx : rv r x = .int k a) (hy : rv r y = .int k b) :
  (execOp (rv r) ⟨dst, .binOp .sub xt x y yt, ty, pos, after, gd⟩).run P w = .ok (.value ((.int k (k.wrap (a - b))))) w := (by simp [execOp, hx, hy, binOp, eqGuard, Op.intArith])
theorem x_mul (hx : rv r x = .int k a) (hy : rv r y = .int k b) :
  (execOp (rv r) ⟨dst, .binOp .mul xt x y yt, ty, pos, after, gd⟩).run P w = .ok (.value ((.int k (k.wrap (a * b))))) w := (by simp [execOp, hx, hy, binOp, eqGuard, Op.intArith])
theorem x_lss (hx : rv r x = .int k a) (hy : rv r y = .int k b) :
  (execOp (rv r) ⟨dst, .binOp .lss xt x y yt, ty, pos, after, gd⟩).run P w = .ok (.value ((.bool (decide (a < b))))) w := (by simp [execOp, hx, hy, binOp, eqGuard, Op.intCmp])
theorem x_leq (hx : rv r x = .int k a) (hy : rv r y = .int k b) :
  (execOp (rv r) ⟨dst, .binOp .leq xt x y yt, ty, pos, after, gd⟩).run P w = .ok (.value ((.bool (decide (a ≤ b))))) w := (by simp [execOp, hx, hy, binOp, eqGuard, Op.intCmp])
theorem x_gtr (hx : rv r x = .int k a) (hy : rv r y = .int k b) :
  (execOp (rv r) ⟨dst, .binOp .gtr xt x y yt, ty, pos, after, gd⟩).run P w = .ok (.value ((.bool (decide (b < a))))) w := (by simp [execOp, hx, hy, binOp, eqGuard, Op.intCmp])
theorem x_geq (hx : rv r x = .int k a) (hy : rv r y = .int k b) :
  (execOp (rv r) ⟨dst, .binOp .geq xt x y yt, ty, pos, after, gd⟩).run P w = .ok (.value ((.bool (decide (b ≤ a))))) w := (by simp [execOp, hx, hy, binOp, eqGuard, Op.intCmp])
theorem x_eql (hx : rv r x = .int k a) (hy : rv r y = .int k b) :
  (execOp (rv r) ⟨dst, .binOp .eql xt x y yt, ty, pos, after, gd⟩).run P w = .ok (.value ((.bool (a == b)))) w := (by simp [execOp, hx, hy, binOp, eqGuard, Op.intCmp])
theorem x_neq (hx : rv r x = .int k a) (hy : rv r y = .int k b) :
  (execOp (rv r) ⟨dst, .binOp .neq xt x y yt, ty, pos, after, gd⟩).run P w = .ok (.value ((.bool (a != b)))) w := (by simp [execOp, hx, hy, binOp, eqGuard, Op.intCmp])
theorem x_and (hx : rv r x = .int k a) (hy : rv r y = .int k b) :
  (execOp (rv r) ⟨dst, .binOp .and xt x y yt, ty, pos, after, gd⟩).run P w = .ok (.value ((.int k (ibits .and k a b)))) w := (by simp [execOp, hx, hy, binOp, eqGuard, Op.intBits, ibits])
theorem x_or (hx : rv r x = .int k a) (hy : rv r y = .int k b) :
  (execOp (rv r) ⟨dst, .binOp .or xt x y yt, ty, pos, after, gd⟩).run P w = .ok (.value ((.int k (ibits .or k a b)))) w := (by simp [execOp, hx, hy, binOp, eqGuard, Op.intBits, ibits])
theorem x_xor (hx : rv r x = .int k a) (hy : rv r y = .int k b) :
  (execOp (rv r) ⟨dst, .binOp .xor xt x y yt, ty, pos, after, gd⟩).run P w = .ok (.value ((.int k (ibits .xor k a b)))) w := (by simp [execOp, hx, hy, binOp, eqGuard, Op.intBits, ibits])
theorem x_quo (hx : rv r x = .int k a) (hy : rv r y = .int k b) (hb : (b == 0) = false) :
  (execOp (rv r) ⟨dst, .binOp .quo xt x y yt, ty, pos, after, gd⟩).run P w = .ok (.value (.int k (k.wrap (a.tdiv b)))) w := by
 have hb' : ¬ b = 0 := by simpa using hb
 simp [execOp, hx, hy, binOp, eqGuard, Op.intDiv, hb']
theorem x_rem (hx : rv r x = .int k a) (hy : rv r y = .int k b) (hb : (b == 0) = false) :
  (execOp (rv r) ⟨dst, .binOp .rem xt x y yt, ty, pos, after, gd⟩).run P w = .ok (.value (.int k (a.tmod b))) w := by
 have hb' : ¬ b = 0 := by simpa using hb
 simp [execOp, hx, hy, binOp, eqGuard, Op.intDiv, hb']
/-- Shifted by a number that is known to be no more than the width. -/
def shOk (k : IntKind) (b : Int) : Bool := decide (0 ≤ b) && decide (b ≤ k.bits)
theorem x_shl {ky : IntKind} (hx : rv r x = .int k a) (hy : rv r y = .int ky b) (hb : shOk k b = true) :
  (execOp (rv r) ⟨dst, .binOp .shl xt x y yt, ty, pos, after, gd⟩).run P w = .ok (.value (.int k (k.wrap (a * 2 ^ b.toNat)))) w := by
 simp [shOk] at hb
 have h0 : ¬ b < 0 := by omega
 have h1 : min b.toNat k.bits = b.toNat := by omega
 simp [execOp, hx, hy, binOp, eqGuard, Op.shift, h0, h1]
theorem x_shr {ky : IntKind} (hx : rv r x = .int k a) (hy : rv r y = .int ky b) (hb : shOk k b = true) :
  (execOp (rv r) ⟨dst, .binOp .shr xt x y yt, ty, pos, after, gd⟩).run P w = .ok (.value (.int k (a.fdiv (2 ^ b.toNat)))) w := by
 simp [shOk] at hb
 have h0 : ¬ b < 0 := by omega
 have h1 : min b.toNat k.bits = b.toNat := by omega
 simp [execOp, hx, hy, binOp, eqGuard, Op.shift, h0, h1]
theorem x_neg (hx : rv r x = .int k a) :
  (execOp (rv r) ⟨dst, .unOp .neg xt x, ty, pos, after, gd⟩).run P w = .ok (.value ((.int k (k.wrap (0 - a))))) w := (by simp [execOp, hx, Op.unary, Op.intArith])
theorem x_not {p : Bool} (hx : rv r x = .bool p) :
  (execOp (rv r) ⟨dst, .unOp .not xt x, ty, pos, after, gd⟩).run P w = .ok (.value ((.bool (!p)))) w := (by simp [execOp, hx, Op.unary])
theorem x_conv {k' : IntKind} {u : TypeDesc} (hs : P.underlying xt = some u) (ht : P.underlying yt = some (.int k')) (hx : rv r x = .int k a) :
  (execOp (rv r) ⟨dst, .convert xt yt x, ty, pos, after, gd⟩).run P w = .ok (.value ((.int k' (k'.wrap a)))) w := (by simp [execOp, hx, convert, run_underlying hs, run_underlying ht, Conv.intToInt])
end ints
section bools
variable {x y : Operand} {xt yt : TypeId} {p q : Bool}
theorem run_equal_bool (ht : P.underlying xt = some .bool) : (Op.equal xt (.bool p) (.bool q)).run P w = .ok (p == q) w := by
 have h : ∀ d : Nat, (Op.equalIn (d + 1) xt (.bool p) (.bool q)).run P w = .ok (p == q) w := fun d => by simp [Op.equalIn, run_underlying ht]
 exact h 9999
theorem x_eqlb (ht : P.underlying xt = some .bool) (hx : rv r x = .bool p) (hy : rv r y = .bool q) :
  (execOp (rv r) ⟨dst, .binOp .eql xt x y yt, ty, pos, after, gd⟩).run P w = .ok (.value ((.bool (p == q)))) w := (by simp only [execOp, hx, hy, binOp, eqGuard]; simp [run_equal_bool ht])
end bools
section strs
variable {x y : Operand} {xt yt : TypeId} {s t : Str}
end strs
theorem x_nilCheck {x : Operand} {a : Addr} (hx : rv r x = .pointer (some a)) :
  (execOp (rv r) ⟨dst, .nilCheck x, ty, pos, after, gd⟩).run P w = .ok (.value ((.pointer (some a)))) w := (by simp [execOp, hx])
theorem x_extract {x : Operand} {i : Nat} {vl : List Value} (v : Value) (hx : rv r x = .tuple vl.toArray) (hv : vl[i]? = some v) :
  (execOp (rv r) ⟨dst, .extract x i, ty, pos, after, gd⟩).run P w = .ok (.value (v)) w := (by simp [execOp, hx, Instr.extract, hv])
end
end Go.Sw

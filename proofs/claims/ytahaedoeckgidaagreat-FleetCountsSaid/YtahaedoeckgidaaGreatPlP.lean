/- The plain law: it comes to an end. -/
import Derived.Test.YtahaedoeckgidaaGreatPlO
set_option linter.unusedVariables false
set_option linter.unusedSimpArgs false
namespace Go.Sw.FL
section
variable {m : ApiModel} {ts0 : List (List Int)} {d : Nat}
theorem bag_nil {f : FleetFleet} {A : Nat} {frs : List Fr} (h : WInv m ts0 f A frs) : f.bag.length = frs.length := by rw [h.bg]; simp
/-- Delivered, as long as there is one. -/
def Steps (m : ApiModel) (ts0 : List (List Int)) (K : FleetFleet → Nat → List Fr → Prop) : Prop := ∀ f A frs, Inv m ts0 f A frs → K f A frs → frs ≠ [] → ∃ f' A' frs', fleet_Fleet_Deliver f 0 = some (f', 0) ∧ Inv m ts0 f' A' frs' ∧ phi m A' frs' < phi m A frs ∧ K f' A' frs'
theorem phi_small (C : Ctx m ts0 d) {f : FleetFleet} {A : Nat} {frs : List Fr} (h : Inv m ts0 f A frs) : phi m A frs < 2000 := by
 have h1 := wsum_le frs
 have h2 := h.1.b200
 have h3 := C.n4
 unfold phi; omega
/-! ### how much was worked out -/
def lens (f : FleetFleet) (k : Nat) : Nat := match k with | 0 => 0 | k + 1 => lens f k + (at0 f.ledgers (k : Int)).length
theorem worked_eq (C : Ctx m ts0 d) {f : FleetFleet} {A : Nat} {frs : List Fr} (h : WInv m ts0 f A frs) : fleet_Fleet_Worked f = some (f, (lens f 5 : Int)) ∧ lens f 5 ≤ 4 * (m.Layers.length * ts0.length * 2) := by
 have hb : ∀ k : Nat, k < 5 → (at0 f.ledgers (k : Int)).length ≤ m.Layers.length * ts0.length * 2 := fun k hk => led_len (h.lok _ (at0_mem (by omega) (by rw [h.lg]; omega)))
 have hM : m.Layers.length * ts0.length * 2 ≤ 128 := by have := Nat.mul_le_mul C.n4 C.t16; omega
 have h0 : (at0 f.ledgers ((0 : Nat) : Int)).length = 0 := by have := h.l0; show (at0 f.ledgers 0).length = 0; rw [this]; rfl
 have h1 := hb 1 (by omega)
 have h2 := hb 2 (by omega)
 have h3 := hb 3 (by omega)
 have h4 := hb 4 (by omega)
 have step : ∀ (r k : Nat), k < 5 → fleet_Fleet_Worked_l1 f (r + 1) k (lens f k : Int) = fleet_Fleet_Worked_l1 f r (k + 1) (lens f (k + 1) : Int) := fun r k hk => by
  have hl : lens f k ≤ 5 * 128 := by
   have : ∀ j, j ≤ 5 → lens f j ≤ j * 128 := fun j => by
    induction j with
    | zero => intro _; simp [lens]
    | succ j ih => intro hj; have := ih (by omega); have := hb j (by omega); rw [lens]; omega
   have := this k (by omega); omega
  have := hb k hk
  rw [fleet_Fleet_Worked_l1]
  refine cb_t (by simp [inb]; omega) ?_
  rw [i64w_eq (by omega) (by omega)]
  rw [lens]; simp
 constructor
 ·unfold fleet_Fleet_Worked
  refine cb_t rfl (bd_s (x := (lens f 5 : Int)) ?_ rfl)
  have e5 : Int.toNat 5 = 5 := rfl
  have e0 : (0 : Int) = (lens f 0 : Int) := rfl
  rw [e5, e0, step 4 0 (by omega), step 3 1 (by omega), step 2 2 (by omega), step 1 3 (by omega), step 0 4 (by omega)]; rfl
 ·simp only [lens]; omega
end
end Go.Sw.FL

/- What a law is handed, as data: the reading of a row's arguments opened; the call's end as the row asks it. -/
import Derived.Test.YtahaedoeckgidaaGreatSwCut
import Derived.ProofKit
import Derived.OpenShut
import Derived.ShutString
import Derived.ChangeOld
import Derived.Below
import Derived.Deep.Slices
set_option linter.unusedVariables false
set_option linter.unusedSimpArgs false
namespace Go.Sw
open Go.RowKit (Below)
/-- All that there is. -/
def allH (w : World) : IHeap := fun b => w.heap[b]?
theorem allH_sub (w : World) : Sub (allH w) w := fun b o h => h
theorem hc_all {w : World} {b i : Nat} {v : Value} (h : w.cell? ⟨b, i, none⟩ = some v) : hc (allH w) b i = some v := by
 unfold World.cell? at h
 unfold hc allH
 simp only [Option.isSome_none, Bool.false_eq_true, if_false] at h
 split at h
 ·next c t fr hb => simp only [hb]; exact h
 ·cases h
theorem spot_none {w : World} {a : Addr} {v : Value} (h : w.cell? a = some v) : a.spot = none := by
 unfold World.cell? at h
 split at h
 ·split at h
  ·cases h
  ·next hs => simpa using hs
 ·cases h
/-- A type's readings tell data. -/
def Opens {α : Type} (en : Enc α) (P : Program) (t : TypeId) (ok : α → Prop) : Prop :=
 ∀ (H : Type) (enc : TypeId × Value → H) (w : World) (base : Nat) (spare : Nat → Bool) (held : Bool) (fuel : Nat) (cs : List Value) (x : DataW H × List MemPlace), DataW.trod enc P w base spare held fuel t cs = some x → ∃ y, en.rep (allH w) cs y ∧ ok y
section
variable {P : Program} {t e : TypeId}
theorem opens_int {k : IntKind} (ht : P.underlying t = some (.int k)) : Opens (eInt k) P t (fun n => (Lit.int k n).wf = true) := fun H enc w base spare held fuel cs x h => by
 obtain ⟨n, rfl, _, hw⟩ := DataW.trod_int ht h
 exact ⟨n, rfl, hw⟩
theorem opens_sl {α : Type} [Inhabited α] {en : Enc α} {ok : α → Prop} (ht : P.underlying t = some (.slice e)) (hs : P.cellsOf e = en.size) (hp : 0 < en.size) (he : Opens en P e ok) : Opens (eSl en) P t (fun xs => xs.length ≤ maxLen ∧ ∀ x ∈ xs, ok x) := fun H enc w base spare held fuel cs x h => by
 rcases DataW.trod_slice ht h with ⟨rfl, _⟩ | ⟨a, len, cap, elems, rest, m, _, rfl, _, hb, hl, hm, hlen, hel, _, _⟩
 ·exact ⟨[], ⟨none, 0, rfl, RS.nil0 _ _⟩, by simp, by simp⟩
 rw [hs] at hel
 have hspa0 : 0 < len → a.spot = none := fun h0 => by
  have h3 := hel 0 h0
  rw [List.getElem?_eq_getElem (by omega)] at h3
  cases hcs : w.cells? base (a.add (0 * en.size)) en.size with
  | none => rw [hcs] at h3; cases h3
  | some cs' =>
   obtain ⟨_, hcl, hat⟩ := World.cells?_some hcs
   have h0 := hat 0 hp
   rw [List.getElem?_eq_getElem (by omega)] at h0
   have := spot_none h0
   simpa [Addr.add] using this
 have h2 : ∀ i, ∃ y, i < len → (ok y ∧ a.spot = none ∧ At en (allH w) ⟨a.block, a.off + i * en.size, none⟩ y) := fun i => by
  by_cases hi : i < len
  ·have h3 := hel i hi
   rw [List.getElem?_eq_getElem (by omega)] at h3
   cases hcs : w.cells? base (a.add (i * en.size)) en.size with
   | none => rw [hcs] at h3; cases h3
   | some cs' =>
    rw [hcs] at h3
    obtain ⟨y, hy, hok⟩ := he H enc w base spare held _ _ _ h3
    obtain ⟨_, hcl, hat⟩ := World.cells?_some hcs
    have hspa := hspa0 (by omega)
    have ha : a = ⟨a.block, a.off, none⟩ := by cases a; simp_all
    refine ⟨y, fun _ => ⟨hok, hspa, _, _, rfl, cs', hy, fun j v hv => ?_⟩⟩
    have hj := (List.getElem?_eq_some_iff.1 hv).1
    have := hat j (by omega)
    rw [hv, ha, addr_add, addr_add] at this
    exact hc_all this
  ·exact ⟨default, fun h => absurd h hi⟩
 obtain ⟨f, hf⟩ := Classical.axiomOfChoice h2
 refine ⟨(List.range len).map f, ⟨some a, cap, by simp, by simpa using hl, hm, fun hne => ?_⟩, by simp; omega, fun y hy => ?_⟩
 ·have hl0 : 0 < len := by
   rcases Nat.eq_zero_or_pos len with h0 | h0
   ·subst h0; simp at hne
   ·exact h0
  have hspa := (hf 0 hl0).2.1
  refine ⟨a.block, a.off, by cases a; simp_all, fun j x hj => ?_⟩
  rw [List.getElem?_map] at hj
  by_cases hjq : j < len
  ·rw [List.getElem?_range hjq] at hj
   simp only [Option.map_some, Option.some.injEq] at hj
   subst hj
   exact (hf j hjq).2.2
  ·rw [List.getElem?_eq_none (by simpa using hjq)] at hj; cases hj
 ·obtain ⟨j, hj, rfl⟩ := List.mem_map.1 hy
  exact (hf j (by simpa using hj)).1
end
/-- The end of a call that wrote nothing that was there. -/
theorem St.below {w w' : World} {H H' : IHeap} {O : OHeap} (h : St w H [] H' O w') : Below w.heap.size w w' := ⟨h.os, h.tape, h.output, h.sz, fun k hk => h.fr k hk (by simp)⟩
theorem Ok.law {P : Program} {f : FuncId} {args : Array Value} {w : World} {H : IHeap} (h : Ok P f args w H (fun _ v => v = .bool true)) : Calls P f args w fun e w' => e = .returned (.bool true) ∧ Below w.heap.size w w' :=
 Calls.mono h fun e w' ⟨v, he, H', hv, hst⟩ => ⟨by rw [he, hv], hst.below⟩
end Go.Sw

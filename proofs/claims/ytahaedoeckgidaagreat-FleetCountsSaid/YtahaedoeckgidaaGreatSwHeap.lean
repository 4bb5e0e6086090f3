/- What memory holds: data that nobody writes any more (H), and blocks of the call's own (O). -/
import Derived.Test.YtahaedoeckgidaaGreatSwOps
set_option linter.unusedVariables false
set_option linter.unusedSimpArgs false
namespace Go.Sw
abbrev IHeap := Nat → Option Obj
def Le (H H' : IHeap) : Prop := ∀ b o, H b = some o → H' b = some o
theorem Le.refl (H : IHeap) : Le H H := fun _ _ h => h
theorem Le.trans {A B C : IHeap} (h : Le A B) (k : Le B C) : Le A C := fun b o e => k b o (h b o e)
def hc (H : IHeap) (b i : Nat) : Option Value :=
 match H b with
 | some (.cells c _ _) => c[i]?
 | _ => none
theorem hc_le {H H' : IHeap} (h : Le H H') {b i : Nat} {v : Value} (e : hc H b i = some v) : hc H' b i = some v := by
 unfold hc at *
 split at e
 ·next c _ _ hb => rw [h b _ hb]; exact e
 ·cases e
def Sub (H : IHeap) (w : World) : Prop := ∀ b o, H b = some o → w.heap[b]? = some o
theorem Sub.cell {H : IHeap} {w : World} (h : Sub H w) {b i : Nat} {v : Value} (e : hc H b i = some v) : w.cell? ⟨b, i, none⟩ = some v := by
 unfold hc at e
 split at e
 ·next c _ _ hb => simp [World.cell?, h b _ hb, e]
 ·cases e
/-- How a Go type's cells tell a datum. -/
structure Enc (α : Type) where
 size : Nat
 rep : IHeap → List Value → α → Prop
 len : ∀ {H cs x}, rep H cs x → cs.length = size
 one : ∀ {H cs x}, rep H cs x → ∀ v ∈ cs, v.oneCell' = true
 mono : ∀ {H H' cs x}, Le H H' → rep H cs x → rep H' cs x
def eInt (k : IntKind) : Enc Int where
 size := 1
 rep _ cs x := cs = [.int k x]
 len := by rintro H cs x rfl; rfl
 one := by rintro H cs x rfl v hv; simp at hv; subst hv; rfl
 mono := by intro H H' cs x _ h; exact h
def eBool : Enc Bool where
 size := 1
 rep _ cs x := cs = [.bool x]
 len := by rintro H cs x rfl; rfl
 one := by rintro H cs x rfl v hv; simp at hv; subst hv; rfl
 mono := by intro H H' cs x _ h; exact h
def eStr : Enc Str where
 size := 1
 rep _ cs x := cs = [vs x]
 len := by rintro H cs x rfl; rfl
 one := by rintro H cs x rfl v hv; simp at hv; subst hv; rfl
 mono := by intro H H' cs x _ h; exact h
/-- Cells from a place on, in H. -/
def CellsAt (H : IHeap) (b o : Nat) (cs : List Value) : Prop := ∀ i v, cs[i]? = some v → hc H b (o + i) = some v
/-- At an address there is a datum that nobody writes any more. -/
def At {α : Type} (e : Enc α) (H : IHeap) (a : Addr) (x : α) : Prop := ∃ b o, a = ⟨b, o, none⟩ ∧ ∃ cs, e.rep H cs x ∧ CellsAt H b o cs
theorem At.mono {α : Type} {e : Enc α} {H H' : IHeap} {a : Addr} {x : α} (h : At e H a x) (hl : Le H H') : At e H' a x := by
 obtain ⟨b, o, rfl, cs, hr, hc⟩ := h
 exact ⟨b, o, rfl, cs, e.mono hl hr, fun i v hv => hc_le hl (hc i v hv)⟩
theorem At.up {α : Type} {e : Enc α} {H H' : IHeap} {a : Addr} {x : α} (h : At e H a x) (hl : Le H H') : At e H' a x := h.mono hl
/-- A slice of data that nobody writes any more. -/
def RS {α : Type} (e : Enc α) (H : IHeap) (A : Option Addr) (c : Nat) (xs : List α) : Prop :=
 xs.length ≤ c ∧ c ≤ maxLen ∧ (xs ≠ [] → ∃ b o, A = some ⟨b, o, none⟩ ∧ ∀ j x, xs[j]? = some x → At e H ⟨b, o + j * e.size, none⟩ x)
theorem RS.up {α : Type} {e : Enc α} {H H' : IHeap} {A : Option Addr} {c : Nat} {xs : List α} (h : RS e H A c xs) (hl : Le H H') : RS e H' A c xs :=
 ⟨h.1, h.2.1, fun hn => by
  obtain ⟨b, o, ha, hx⟩ := h.2.2 hn
  exact ⟨b, o, ha, fun j x hj => (hx j x hj).mono hl⟩⟩
theorem RS.nil {α : Type} (e : Enc α) (H : IHeap) (A : Option Addr) (c : Nat) (hc : c ≤ maxLen) : RS e H A c [] := ⟨by simp, hc, fun h => absurd rfl h⟩
theorem RS.nil0 {α : Type} (e : Enc α) (H : IHeap) : RS e H none 0 [] := RS.nil e H none 0 (by simp)
def eSl {α : Type} (e : Enc α) : Enc (List α) where
 size := 1
 rep H cs xs := ∃ A c, cs = [.slice A xs.length c] ∧ RS e H A c xs
 len := by rintro H cs x ⟨A, c, rfl, _⟩; rfl
 one := by rintro H cs x ⟨A, c, rfl, _⟩ v hv; simp at hv; subst hv; rfl
 mono := by rintro H H' cs x hl ⟨A, c, rfl, h⟩; exact ⟨A, c, rfl, h.up hl⟩
/-- A part of a datum that lies in a row within it. -/
def Part {α β : Type} (e : Enc α) (off : Nat) (e' : Enc β) (f : α → β) : Prop :=
 ∀ H cs x, e.rep H cs x → ∃ ecs, e'.rep H ecs (f x) ∧ ∀ i v, ecs[i]? = some v → cs[off + i]? = some v
theorem At.part {α β : Type} {e : Enc α} {off : Nat} {e' : Enc β} {f : α → β} (hp : Part e off e' f) {H : IHeap} {a : Addr} {x : α} (h : At e H a x) : At e' H (a.add off) (f x) := by
 obtain ⟨b, o, rfl, cs, hr, hc⟩ := h
 obtain ⟨ecs, hr', hi⟩ := hp H cs x hr
 refine ⟨b, o + off, ?_, ecs, hr', fun i v hv => ?_⟩
 ·unfold Addr.add; split <;> simp_all
 ·have := hc _ _ (hi i v hv)
  rw [show o + off + i = o + (off + i) from by omega]
  exact this
theorem part_take {cs ecs : List Value} {off m : Nat} (h : (cs.drop off).take m = ecs) : ∀ i v, ecs[i]? = some v → cs[off + i]? = some v := fun i v hv => by
 subst h
 rw [List.getElem?_take] at hv
 split at hv
 ·rwa [List.getElem?_drop] at hv
 ·cases hv
/-- A block, or a row, of the call's own. -/
inductive Own where
 | blk (g : Nat) (cs : List Value) (e : TypeId)
 | row (A : Option Addr) (c : Nat) (e : TypeId) (size n : Nat) (cells : List Value)
 | mp (g : Nat) (es : List (Value × Value))
 | obj (bs : List Nat) (φ : (Nat → Option Obj) → Prop)
def Own.ok (w : World) : Own → Prop
 | .blk g cs e => w.heap[g]? = some (.cells cs.toArray e (0, 0))
 | .row A c e size n cells => cells.length = n * size ∧ n ≤ c ∧ c ≤ maxLen ∧ (∀ v ∈ cells, v.oneCell' = true) ∧
   (c = 0 ∨ ∃ (g o : Nat) (cur : List Value), A = some ⟨g, o, none⟩ ∧ w.heap[g]? = some (.cells cur.toArray e (0, 0)) ∧ o + c * size ≤ cur.length ∧ ∀ i v, cells[i]? = some v → cur[o + i]? = some v)
 | .mp g es => ∃ (a : Array MapEntry) (clock : Nat), w.heap[g]? = some (.map a clock) ∧ a.toList.map (fun e => (e.key, e.val)) = es
 | .obj bs φ => (∀ g ∈ bs, g < w.heap.size) ∧ ∀ h : Nat → Option Obj, (∀ g ∈ bs, h g = w.heap[g]?) → φ h
def Own.ids : Own → List Nat
 | .blk g _ _ => [g]
 | .row A c _ _ _ _ => if c = 0 then [] else (A.map (·.block)).toList
 | .mp g _ => [g]
 | .obj bs _ => bs
abbrev OHeap := Nat → Option Own
def oup (O : OHeap) (k : Nat) (p : Option Own) : OHeap := fun i => bif Nat.beq k i then p else O i
theorem oup_same (O : OHeap) (k : Nat) (p : Option Own) : oup O k p k = p := by simp [oup]
theorem oup_ne (O : OHeap) {k i : Nat} (p : Option Own) (h : k ≠ i) : oup O k p i = O i := by
 have : Nat.beq k i = false := by
  cases hb : Nat.beq k i
  ·rfl
  ·exact absurd (Nat.eq_of_beq_eq_true hb) h
 simp [oup, this]
def ono : OHeap := fun _ => none
structure St (w0 : World) (H0 : IHeap) (M0 : List Nat) (H : IHeap) (O : OHeap) (w : World) : Prop where
 sub : Sub H w
 le : Le H0 H
 new_ : ∀ b o, H b = some o → H0 b = some o ∨ w0.heap.size ≤ b ∨ b ∈ M0
 ok : ∀ k p, O k = some p → p.ok w
 own : ∀ k p g, O k = some p → g ∈ p.ids → H g = none ∧ (g ∈ M0 ∨ w0.heap.size ≤ g)
 nd : ∀ k j p q g, O k = some p → O j = some q → g ∈ p.ids → g ∈ q.ids → k = j
 fr : ∀ b, b < w0.heap.size → b ∉ M0 → w.heap[b]? = w0.heap[b]?
 sz : w0.heap.size ≤ w.heap.size
 os : w.os = w0.os
 tape : w.tape = w0.tape
 output : w.output = w0.output
theorem St.start {H : IHeap} {w : World} (h : Sub H w) : St w H [] H ono w :=
 ⟨h, Le.refl _, fun b o e => .inl e, fun k p e => (by cases e), fun k p g e => (by cases e), fun k j p q g e => (by cases e), fun _ _ _ => rfl, Nat.le_refl _, rfl, rfl, rfl⟩
/-- What may have turned from one world to the next: the blocks of S, and new ones. -/
structure Chg (w w' : World) (S : Nat → Prop) : Prop where
 os : w'.os = w.os
 tape : w'.tape = w.tape
 output : w'.output = w.output
 sz : w.heap.size ≤ w'.heap.size
 bl : ∀ b, b < w.heap.size → ¬ S b → w'.heap[b]? = w.heap[b]?
theorem lt_of_some {w : World} {b : Nat} {o : Obj} (h : w.heap[b]? = some o) : b < w.heap.size := (Array.getElem?_eq_some_iff.1 h).1
theorem Sub.lt {H : IHeap} {w : World} (h : Sub H w) {b : Nat} {o : Obj} (e : H b = some o) : b < w.heap.size := lt_of_some (h b o e)
theorem Own.lt {w : World} {p : Own} (h : p.ok w) {g : Nat} (hg : g ∈ p.ids) : g < w.heap.size := by
 cases p with
 | blk g' cs e => simp [Own.ids] at hg; subst hg; exact lt_of_some h
 | mp g' es => obtain ⟨a, c, h, _⟩ := h; simp [Own.ids] at hg; subst hg; exact lt_of_some h
 | obj bs φ => exact h.1 g hg
 | row A c e size n cells =>
  obtain ⟨_, _, _, _, h⟩ := h
  simp only [Own.ids] at hg
  split at hg
  ·cases hg
  ·next hc =>
   obtain ⟨g', o, cur, rfl, hh, _⟩ := h.resolve_left hc
   simp at hg; subst hg; exact lt_of_some hh
theorem Own.ok_same {w w' : World} {p : Own} (h : p.ok w) (hs : ∀ g, g ∈ p.ids → w'.heap[g]? = w.heap[g]?) : p.ok w' := by
 cases p with
 | blk g cs e => exact (hs g (by simp [Own.ids])).trans h
 | mp g es => obtain ⟨a, c, h, hm⟩ := h; exact ⟨a, c, (hs g (by simp [Own.ids])).trans h, hm⟩
 | obj bs φ =>
  refine ⟨fun g hg => ?_, fun f hf => h.2 f fun g hg => (hf g hg).trans (hs g hg)⟩
  have h1 := hs g hg
  rw [Array.getElem?_eq_getElem (h.1 g hg)] at h1
  exact lt_of_some h1
 | row A c e size n cells =>
  obtain ⟨h1, h2, h3, h4, h5⟩ := h
  refine ⟨h1, h2, h3, h4, ?_⟩
  rcases h5 with h5 | ⟨g, o, cur, rfl, hh, hr⟩
  ·exact .inl h5
  ·by_cases hc : c = 0
   ·exact .inl hc
   ·exact .inr ⟨g, o, cur, rfl, (hs g (by simp [Own.ids, hc])).trans hh, hr⟩
/-- One of the call's own things turned, or came: all else is as it was. -/
theorem St.put {w0 : World} {H0 : IHeap} {M0 : List Nat} {H : IHeap} {O : OHeap} {w w' : World} (h : St w0 H0 M0 H O w) (k : Nat) (p : Own) (S : Nat → Prop)
  (hc : Chg w w' S) (hS : ∀ b, S b → ∃ q, O k = some q ∧ b ∈ q.ids) (hp : p.ok w')
  (hid : ∀ g, g ∈ p.ids → w.heap.size ≤ g ∨ ∃ q, O k = some q ∧ g ∈ q.ids) : St w0 H0 M0 H (oup O k (some p)) w' := by
 have hHS : ∀ b o, H b = some o → ¬ S b := fun b o e hs => by
  obtain ⟨q, hq, hqi⟩ := hS b hs
  have := (h.own k q b hq hqi).1
  rw [e] at this; cases this
 refine ⟨fun b o e => ?_, h.le, h.new_, fun j q hj => ?_, fun j q g hj hg => ?_, fun j i q s g hj hi hq hs => ?_, fun b hb hn => ?_, Nat.le_trans h.sz hc.sz, hc.os.trans h.os, hc.tape.trans h.tape, hc.output.trans h.output⟩
 ·rw [hc.bl b (h.sub.lt e) (hHS b o e)]; exact h.sub b o e
 ·by_cases hk : k = j
  ·subst hk; rw [oup_same] at hj; injection hj with hj; subst hj; exact hp
  ·rw [oup_ne O _ hk] at hj
   refine Own.ok_same (h.ok j q hj) fun g hg => hc.bl g (Own.lt (h.ok j q hj) hg) fun hs => ?_
   obtain ⟨q', hq', hqi⟩ := hS g hs
   exact hk (h.nd k j q' q g hq' hj hqi hg)
 ·by_cases hk : k = j
  ·subst hk; rw [oup_same] at hj; injection hj with hj; subst hj
   rcases hid g hg with hnew | ⟨q', hq', hqi⟩
   ·refine ⟨?_, .inr (Nat.le_trans h.sz hnew)⟩
    cases hh : H g with
    | none => rfl
    | some o => exact absurd (h.sub.lt hh) (by omega)
   ·exact h.own k q' g hq' hqi
  ·rw [oup_ne O _ hk] at hj; exact h.own j q g hj hg
 ·by_cases hk : k = j
  ·subst hk
   rw [oup_same] at hj; injection hj with hj; subst hj
   by_cases hk2 : k = i
   ·exact hk2
   ·rw [oup_ne O _ hk2] at hi
    exfalso
    rcases hid g hq with hnew | ⟨q', hq', hqi⟩
    ·exact absurd (Own.lt (h.ok i s hi) hs) (by omega)
    ·exact hk2 (h.nd k i q' s g hq' hi hqi hs)
  ·rw [oup_ne O _ hk] at hj
   by_cases hk2 : k = i
   ·subst hk2
    rw [oup_same] at hi; injection hi with hi; subst hi
    exfalso
    rcases hid g hs with hnew | ⟨q', hq', hqi⟩
    ·exact absurd (Own.lt (h.ok j q hj) hq) (by omega)
    ·exact hk (h.nd k j q' q g hq' hj hqi hq)
   ·rw [oup_ne O _ hk2] at hi; exact h.nd j i q s g hj hi hq hs
 ·rw [hc.bl b (Nat.lt_of_lt_of_le hb h.sz) ?_]
  ·exact h.fr b hb hn
  ·intro hs
   obtain ⟨q, hq, hqi⟩ := hS b hs
   rcases (h.own k q b hq hqi).2 with hm | hm
   ·exact hn hm
   ·omega
/-- Something of the call's own is forgotten. -/
theorem St.drop {w0 : World} {H0 : IHeap} {M0 : List Nat} {H : IHeap} {O : OHeap} {w : World} (h : St w0 H0 M0 H O w) (O' : OHeap) (hO : ∀ k p, O' k = some p → O k = some p) : St w0 H0 M0 H O' w :=
 ⟨h.sub, h.le, h.new_, fun k p e => h.ok k p (hO k p e), fun k p g e => h.own k p g (hO k p e), fun k j p q g e e' => h.nd k j p q g (hO k p e) (hO j q e'), h.fr, h.sz, h.os, h.tape, h.output⟩
/-- Only the tape was drawn from. -/
theorem St.same {w0 : World} {H0 : IHeap} {M0 : List Nat} {H : IHeap} {O : OHeap} {w w' : World} (h : St w0 H0 M0 H O w) (hh : w'.heap = w.heap) (ho : w'.os = w.os) (ht : w'.tape = w.tape) (hu : w'.output = w.output) : St w0 H0 M0 H O w' :=
 ⟨fun b o e => by rw [hh]; exact h.sub b o e, h.le, h.new_, fun k p e => Own.ok_same (h.ok k p e) fun g _ => by rw [hh], h.own, h.nd, fun b hb hn => by rw [hh]; exact h.fr b hb hn, by rw [hh]; exact h.sz, ho.trans h.os, ht.trans h.tape, hu.trans h.output⟩
/-- A call that came back: what it made is there, nothing else turned. -/
theorem St.call {w0 : World} {H0 : IHeap} {M0 : List Nat} {H H' : IHeap} {O : OHeap} {w w' : World} (h : St w0 H0 M0 H O w) (hc : St w H [] H' ono w') : St w0 H0 M0 H' O w' := by
 have hfr : ∀ b, b < w.heap.size → w'.heap[b]? = w.heap[b]? := fun b hb => hc.fr b hb (by simp)
 refine ⟨hc.sub, h.le.trans hc.le, fun b o e => ?_, fun k p e => Own.ok_same (h.ok k p e) fun g hg => hfr g (Own.lt (h.ok k p e) hg), fun k p g e hg => ?_, h.nd, fun b hb hn => ?_, Nat.le_trans h.sz hc.sz, hc.os.trans h.os, hc.tape.trans h.tape, hc.output.trans h.output⟩
 ·rcases hc.new_ b o e with h1 | h1 | h1
  ·exact h.new_ b o h1
  ·exact .inr (.inl (Nat.le_trans h.sz h1))
  ·cases h1
 ·refine ⟨?_, (h.own k p g e hg).2⟩
  cases hh : H' g with
  | none => rfl
  | some o =>
   have hlt := Own.lt (h.ok k p e) hg
   rcases hc.new_ g o hh with h1 | h1 | h1
   ·rw [(h.own k p g e hg).1] at h1; cases h1
   ·omega
   ·cases h1
 ·rw [hfr b (Nat.lt_of_lt_of_le hb h.sz)]; exact h.fr b hb hn
/-- A thing of the call's own is written no more. -/
theorem St.freeze {w0 : World} {H0 : IHeap} {M0 : List Nat} {H : IHeap} {O : OHeap} {w : World} (h : St w0 H0 M0 H O w) (k : Nat) (p : Own) (hk : O k = some p) {g : Nat} (hid : p.ids = [g]) :
  ∃ H', Le H H' ∧ H' g = w.heap[g]? ∧ St w0 H0 M0 H' (oup O k none) w := by
 have hg : g ∈ p.ids := by rw [hid]; simp
 have hn := (h.own k p g hk hg).1
 refine ⟨fun b => if b = g then w.heap[g]? else H b, fun b o e => ?_, by simp, ?_⟩
 ·by_cases hb : b = g
  ·subst hb; rw [hn] at e; cases e
  ·simp [hb, e]
 refine ⟨fun b o e => ?_, fun b o e => ?_, fun b o e => ?_, fun j q hj => ?_, fun j q g' hj hg' => ?_, fun j i q s g' hj hi => ?_, h.fr, h.sz, h.os, h.tape, h.output⟩
 ·by_cases hb : b = g
  ·subst hb; simpa using e
  ·simp [hb] at e; exact h.sub b o e
 ·by_cases hb : b = g
  ·subst hb
   have := h.le b o e
   rw [hn] at this; cases this
  ·simp [hb]; exact h.le b o e
 ·by_cases hb : b = g
  ·subst hb
   rcases (h.own k p b hk hg).2 with hm | hm
   ·exact .inr (.inr hm)
   ·exact .inr (.inl hm)
  ·simp [hb] at e; exact h.new_ b o e
 ·by_cases hkj : k = j
  ·subst hkj; rw [oup_same] at hj; cases hj
  ·rw [oup_ne O _ hkj] at hj; exact h.ok j q hj
 ·by_cases hkj : k = j
  ·subst hkj; rw [oup_same] at hj; cases hj
  ·rw [oup_ne O _ hkj] at hj
   refine ⟨?_, (h.own j q g' hj hg').2⟩
   by_cases hb : g' = g
   ·subst hb; exact absurd (h.nd k j p q g' hk hj hg hg') hkj
   ·simp [hb]; exact (h.own j q g' hj hg').1
 ·by_cases hkj : k = j
  ·subst hkj; rw [oup_same] at hj; cases hj
  ·by_cases hki : k = i
   ·subst hki; rw [oup_same] at hi; cases hi
   ·rw [oup_ne O _ hkj] at hj; rw [oup_ne O _ hki] at hi; exact h.nd j i q s g' hj hi
/-- The call's own things, listed. -/
def ol (l : List (Nat × Own)) : OHeap := fun i => l.lookup i
def allIn (O : OHeap) : List (Nat × Own) → Prop
 | [] => True
 | x :: l => O x.1 = some x.2 ∧ allIn O l
theorem St.pick {w0 : World} {H0 : IHeap} {M0 : List Nat} {H : IHeap} {O : OHeap} {w : World} (h : St w0 H0 M0 H O w) (l : List (Nat × Own)) (hl : allIn O l) : St w0 H0 M0 H (ol l) w :=
 h.drop _ fun k p hk => by
  unfold ol at hk
  induction l with
  | nil => cases hk
  | cons x l ih =>
   simp only [List.lookup] at hk
   split at hk
   ·next e =>
    have : k = x.1 := by simpa using e
    subst this
    rw [← hk]; exact hl.1
   ·exact ih hl.2 hk
theorem St.done {w0 : World} {H0 : IHeap} {M0 : List Nat} {H : IHeap} {O : OHeap} {w : World} (h : St w0 H0 M0 H O w) : St w0 H0 M0 H ono w := h.drop _ fun k p hk => by cases hk
end Go.Sw

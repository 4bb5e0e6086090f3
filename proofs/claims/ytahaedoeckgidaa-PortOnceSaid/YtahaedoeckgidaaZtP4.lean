/- PortOnce, the plain law: the net, step by step. -/
import Derived.Test.YtahaedoeckgidaaZtP3
set_option linter.unusedVariables false
set_option linter.unusedSimpArgs false
set_option maxRecDepth 100000
namespace Go.Sw.PO
structure A where
  s : Nat
  qs : List Nat
  low : Int
  seen : List Int
  ths : List Nat
  bks : List Nat
def isIn (low : Int) (seen : List Int) (n : Int) : Prop := n < low ∨ n ∈ seen
instance (low : Int) (seen : List Int) (n : Int) : Decidable (isIn low seen n) := by unfold isIn; infer_instance
def gotL (low : Int) (seen : List Int) : List Int := (List.range 256).map fun (n : Nat) => if isIn low seen (n : Int) then (1 : Int) else 0
def conc (a : A) : Switchboardlaw23Net := ⟨⟨⟨a.s, a.qs.map fr⟩, ⟨0, []⟩⟩, ⟨⟨0, []⟩, ⟨a.low, a.seen⟩⟩, a.ths.map dm, a.bks.map am, gotL a.low a.seen, a.s⟩
structure Inv (a : A) : Prop where
  s : a.s ≤ 250
  q : inc (-1) (a.qs.map Int.ofNat)
  ql : ∀ n ∈ a.qs, n < a.s
  w : ∀ n ∈ a.qs, a.s ≤ n + 32
  low0 : 0 ≤ a.low
  low1 : a.low ≤ a.s
  seen : inc a.low a.seen
  seenl : ∀ x ∈ a.seen, x < a.s
  ack : ∀ n, n < a.s → n ∉ a.qs → isIn a.low a.seen n
  th : ∀ n ∈ a.ths, n < a.s
  bk : ∀ n ∈ a.bks, n < a.s ∧ isIn a.low a.seen n
  thl : a.ths.length ≤ 400
  bkl : a.bks.length ≤ 300
theorem inc_from {l : List Int} {lo lo' : Int} (h : inc lo l) (hx : ∀ x ∈ l, lo' < x) : inc lo' l := by
  cases l with
  | nil => trivial
  | cons x l => exact ⟨hx x (by simp), h.2⟩
theorem Inv.qlen {a : A} (h : Inv a) : a.qs.length ≤ 32 := by
  have h1 : inc ((a.s : Int) - 33) (a.qs.map Int.ofNat) := inc_from h.q fun x hx => by
    obtain ⟨n, hn, rfl⟩ := List.mem_map.1 hx
    have := h.w n hn
    show (a.s : Int) - 33 < (n : Int); omega
  have := inc_len h1 (hi := (a.s : Int)) (fun x hx => by
    obtain ⟨n, hn, rfl⟩ := List.mem_map.1 hx
    have := h.ql n hn
    show (n : Int) < a.s; omega) (by omega)
  rw [List.length_map] at this
  omega
theorem Inv.slen {a : A} (h : Inv a) : a.seen.length ≤ 31 := by
  by_cases hl : a.low < a.s
  · have hlow := h.low0
    have hn : a.low.toNat ∈ a.qs := Classical.byContradiction fun hn => by
      have := h.ack a.low.toNat (by omega) hn
      rw [Int.toNat_of_nonneg hlow] at this
      rcases this with h1 | h1
      · omega
      · have := inc_lt h.seen _ h1; omega
    have h1 := h.w _ hn
    have := inc_len h.seen h.seenl hl
    omega
  · cases hs : a.seen with
    | nil => simp
    | cons x l =>
      have h1 := h.seenl x (by rw [hs]; simp)
      have h2 := inc_lt h.seen x (by rw [hs]; simp)
      omega
theorem tmod_nat {i : Int} {m : Nat} (hi : 0 ≤ i) (hm : 0 < m) : Int.tmod i (m : Int) = ((i.toNat % m : Nat) : Int) := by
  rw [Int.tmod_eq_emod_of_nonneg hi]
  conv => lhs; rw [← Int.toNat_of_nonneg hi]
  exact (Int.natCast_emod _ _).symm
theorem at0_map {α : Type} {f : Nat → Str} {l : List Nat} {k : Nat} (hk : k < l.length) : at0 (l.map f) (k : Int) = f l[k] := by simp [at0, hk]
theorem chr_tx {n : Nat} (h : n < 250) : chr (tx n) 1 = (n : Int) := by
  have : at0 (tx n) 1 = UInt8.ofNat n := rfl
  simp only [chr, this]
  have : (UInt8.ofNat n).toNat = n := by simp [UInt8.toNat_ofNat']; omega
  rw [this]
theorem got_at {low : Int} {seen : List Int} {n : Nat} (hn : n < 256) : at0 (gotL low seen) (n : Int) = if isIn low seen (n : Int) then 1 else 0 := by
  simp [at0, gotL, hn]
theorem got_set {low low' : Int} {seen seen' : List Int} {n : Nat} (hn : n < 250) (h : ¬ isIn low seen n) (he : ∀ x, isIn low' seen' x ↔ (isIn low seen x ∨ x = (n : Int))) :
    List.set (gotL low seen) n (i64w (at0 (gotL low seen) (n : Int) + 1)) = gotL low' seen' := by
  rw [got_at (by omega), if_neg h]
  have e1 : i64w (0 + 1) = 1 := by decide
  rw [e1]
  apply List.ext_getElem?
  intro j
  rw [List.getElem?_set]
  by_cases hj : j < 256
  · by_cases hjn : n = j
    · subst hjn
      have : isIn low' seen' (n : Int) := (he _).2 (.inr rfl)
      simp [gotL, hj, this]
    · have : isIn low' seen' (j : Int) ↔ isIn low seen (j : Int) := by
        rw [he]
        constructor
        · rintro (h | h)
          · exact h
          · omega
        · exact .inl
      simp [gotL, hj, hjn, this]
  · have h1 : (gotL low seen)[j]? = none := List.getElem?_eq_none (by simp [gotL]; omega)
    have h2 : (gotL low' seen')[j]? = none := List.getElem?_eq_none (by simp [gotL]; omega)
    rw [h1, h2]
    split
    · next e => subst e; rw [if_neg (by simp [gotL]; omega)]
    · rfl
theorem bif_t {p : Prop} [Decidable p] {α : Type} {x y z : α} (hp : p) (h : x = z) : (bif decide p then x else y) = z := by rw [decide_eq_true hp]; exact h
theorem bif_f {p : Prop} [Decidable p] {α : Type} {x y z : α} (hp : ¬ p) (h : y = z) : (bif decide p then x else y) = z := by rw [decide_eq_false hp]; exact h
theorem map_erase {α β : Type} (f : α → β) : ∀ (l : List α) (k : Nat), (l.map f).eraseIdx k = (l.eraseIdx k).map f
  | [], k => by simp
  | x :: l, 0 => by simp
  | x :: l, k + 1 => by simp [map_erase f l k]
def dlv (a : A) (low' : Int) (seen' : List Int) (k n : Nat) (tw : Bool) : A :=
  { a with low := low', seen := seen', bks := if a.bks.length < 300 then a.bks ++ [n] else a.bks, ths := if tw then a.ths else a.ths.eraseIdx k }
theorem dlv_inv {a : A} (h : Inv a) {low' : Int} {seen' : List Int} {k n : Nat} {tw : Bool} (hn : n < a.s) (h1 : inc low' seen') (h2 : a.low ≤ low') (he : ∀ x, isIn low' seen' x ↔ (isIn a.low a.seen x ∨ x = (n : Int))) : Inv (dlv a low' seen' k n tw) := by
  have hin : ∀ x, isIn low' seen' x → 0 ≤ x → x < a.s := fun x hx h0 => by
    rcases (he x).1 hx with (h3 | h3) | h3
    · have := h.low1; omega
    · exact h.seenl x h3
    · omega
  have hs := h.s
  refine ⟨h.s, h.q, h.ql, h.w, by have := h.low0; show 0 ≤ low'; omega, ?_, h1, fun x hx => ?_, fun m hm hq => (he _).2 (.inl (h.ack m hm hq)), fun m hm => ?_, fun m hm => ?_, ?_, ?_⟩
  · show low' ≤ (a.s : Int)
    refine Classical.byContradiction fun hc => ?_
    have := hin (a.s : Int) (.inl (by omega)) (by omega)
    omega
  · have := inc_lt h1 x hx
    have := h.low0
    exact hin x (.inr hx) (by omega)
  · simp only [dlv] at hm
    split at hm
    · exact h.th m hm
    · exact h.th m (List.mem_of_mem_eraseIdx hm)
  · simp only [dlv] at hm ⊢
    split at hm
    · rcases List.mem_append.1 hm with hm | hm
      · exact ⟨(h.bk m hm).1, (he _).2 (.inl (h.bk m hm).2)⟩
      · simp at hm; subst hm; exact ⟨hn, (he _).2 (.inr rfl)⟩
    · exact ⟨(h.bk m hm).1, (he _).2 (.inl (h.bk m hm).2)⟩
  · simp only [dlv]
    split
    · exact h.thl
    · have := h.thl
      have := List.length_eraseIdx_le a.ths k
      omega
  · simp only [dlv]
    have := h.bkl
    split
    · simp; omega
    · exact this
theorem deliver_nil {a : A} (h : a.ths = []) (i : Int) (tw : Bool) : switchboardlaw23_deliver (conc a) i tw = some (conc a) := by
  unfold switchboardlaw23_deliver
  simp [conc, h]
theorem deliver_ok {a : A} (h : Inv a) (i : Int) (hi : 0 ≤ i) (tw : Bool) {k n : Nat} (hkk : i.toNat % a.ths.length = k) (hnn' : a.ths[k]? = some n) :
    ∃ low' seen', switchboardlaw23_deliver (conc a) i tw = some (conc (dlv a low' seen' k n tw)) ∧ Inv (dlv a low' seen' k n tw) := by
  obtain ⟨hk, hnn⟩ := List.getElem?_eq_some_iff.1 hnn'
  have hne : 0 < a.ths.length := by omega
  have hn : n < a.s := by rw [← hnn]; exact h.th _ (List.getElem_mem hk)
  have hs := h.s
  have hb := h.bkl
  have ht := h.thl
  have c1 : (((a.ths.map dm).length : Int) == 0) = false := by simp; intro h0; rw [h0] at hne; simp at hne
  have c2 : (((a.ths.map dm).length : Int) != 0) = true := by rw [bne, c1]; rfl
  have c3 : Int.tmod i ((a.ths.map dm).length : Int) = (k : Int) := by rw [List.length_map, tmod_nat hi hne, hkk]
  have c4 : inb (k : Int) (a.ths.map dm).length = true := by simp [inb, hk]
  have c5 : at0 (a.ths.map dm) (k : Int) = dm n := by rw [at0_map (α := Nat) hk, hnn]
  have c6 : lim (([] : List Str).length + (a.bks.map am).length) = true := by simp [lim]; omega
  have c7 : lim ((([] : List Str) ++ a.bks.map am).length + [am n].length) = true := by simp [lim]; omega
  have c8 : switchboardref08_Without (a.ths.map dm) (k : Int) = some ((a.ths.eraseIdx k).map dm) := by rw [without_eq _ _ (by simp; omega), map_erase]
  by_cases hr : isIn a.low a.seen n
  · refine ⟨a.low, a.seen, ?_, dlv_inv h hn h.seen (Int.le_refl _) fun x => ⟨.inl, fun hx => hx.elim id fun e => e ▸ hr⟩⟩
    have hacc := receive_old ⟨⟨0, []⟩, ⟨a.low, a.seen⟩⟩ n (by omega) (accept_old h.low0 (by have := h.low1; omega) h.seen (fun x hx => by have := h.seenl x hx; omega) h.slen (by omega) hr)
    unfold switchboardlaw23_deliver
    simp only [conc, c1, cond_false, c2, cond_true, c3, c4, c5, hacc, Option.bind_some, Bool.false_and, c6, c7, c8]
    by_cases hl : a.bks.length < 300
    · have hl2 : ((a.bks.map am).length : Int) < 300 := by rw [List.length_map]; omega
      refine bif_t hl2 ?_
      cases tw <;> simp only [cond_true, cond_false, Bool.not_false, Bool.not_true, c6, c7, c8, Option.bind_some, dlv, if_pos hl, List.map_append, List.map_cons, List.map_nil, List.nil_append, if_true, Bool.false_eq_true, if_false]
    · have hl2 : ¬ ((a.bks.map am).length : Int) < 300 := by rw [List.length_map]; omega
      refine bif_f hl2 ?_
      cases tw <;> simp only [cond_true, cond_false, Bool.not_false, Bool.not_true, c6, c7, c8, Option.bind_some, dlv, if_neg hl, List.nil_append, if_true, Bool.false_eq_true, if_false]
  · have hr1 : ¬ (n : Int) < a.low := fun h1 => hr (.inl h1)
    have hr2 : ¬ (n : Int) ∈ a.seen := fun h1 => hr (.inr h1)
    obtain ⟨low', seen', e1, e2, e3, e4, e5, e6⟩ := accept_new h.low0 (by have := h.low1; omega) h.seen (fun x hx => by have := h.seenl x hx; omega) h.slen (n := (n : Int)) (by omega) hr1 hr2
    have he : ∀ x, isIn low' seen' x ↔ (isIn a.low a.seen x ∨ x = (n : Int)) := fun x => by unfold isIn; rw [e6 x, or_assoc]
    refine ⟨low', seen', ?_, dlv_inv h hn e2 e3 he⟩
    have hacc := receive_new ⟨⟨0, []⟩, ⟨a.low, a.seen⟩⟩ _ n (by omega) e1
    have d1 : ((((tx n).length : Nat) : Int) == 2) = true := rfl
    have d2 : inb 1 (tx n).length = true := rfl
    have d3 : inb (n : Int) 256 = true := by simp [inb]; omega
    have d4 := got_set (by omega : n < 250) hr he
    unfold switchboardlaw23_deliver
    simp only [conc, c1, cond_false, c2, cond_true, c3, c4, c5, hacc, Option.bind_some, Bool.true_and, d1, d2, chr_tx (by omega : n < 250), d3, Int.toNat_natCast, d4, c6, c7, c8]
    by_cases hl : a.bks.length < 300
    · have hl2 : ((a.bks.map am).length : Int) < 300 := by rw [List.length_map]; omega
      refine bif_t hl2 ?_
      cases tw <;> simp only [cond_true, cond_false, Bool.not_false, Bool.not_true, c6, c7, c8, Option.bind_some, dlv, if_pos hl, List.map_append, List.map_cons, List.map_nil, List.nil_append, if_true, Bool.false_eq_true, if_false]
    · have hl2 : ¬ ((a.bks.map am).length : Int) < 300 := by rw [List.length_map]; omega
      refine bif_f hl2 ?_
      cases tw <;> simp only [cond_true, cond_false, Bool.not_false, Bool.not_true, c6, c7, c8, Option.bind_some, dlv, if_neg hl, List.nil_append, if_true, Bool.false_eq_true, if_false]
end Go.Sw.PO

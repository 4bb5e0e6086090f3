/- PortOnce, the plain law: the loops at the end. -/
import Derived.Test.YtahaedoeckgidaaZtPc
set_option linter.unusedVariables false
set_option linter.unusedSimpArgs false
set_option maxRecDepth 100000
namespace Go.Sw.PO
theorem l3_ok : ∀ (fuel j : Nat) (a : A), Inv a → j + a.bks.length ≤ 700 → a.bks.length < fuel →
    ∃ z a', switchboardlaw23_PortOnce_l3 fuel (j : Int) (conc a) = some (z, conc a') ∧ Inv a' ∧ a'.bks = [] ∧ a'.ths = a.ths ∧ a'.s = a.s ∧ ((∀ n ∈ a.qs, n ∈ a.bks) → a'.qs = [])
  | 0, j, a, h, hj, hf => by omega
  | fuel + 1, j, a, h, hj, hf => by
    rw [switchboardlaw23_PortOnce_l3]
    cases hb : a.bks with
    | nil =>
      refine ⟨_, a, cb_f ?_ rfl, h, hb, rfl, rfl, fun hq => ?_⟩
      · rw [Bool.and_eq_false_iff]
        exact .inr (decide_eq_false (by simp [conc, hb]))
      · cases hqs : a.qs with
        | nil => rfl
        | cons q qs => have := hq q (by rw [hqs]; simp); simp at this
    | cons n bks =>
      have hk : a.bks[0]? = some n := by rw [hb]; rfl
      have hl : a.bks.length = bks.length + 1 := by rw [hb]; rfl
      have e := tell_ok h 0 (by omega) (k := 0) (by simp) hk
      have kj : i64w ((j : Int) + 1) = ((j + 1 : Nat) : Int) := by rw [i64w_id (by omega) (by omega)]; simp
      have hbk : (tl a 0 n).bks = bks := by simp [tl, hb]
      obtain ⟨z, a', e2, ia, e3, e4, e5, e6⟩ := l3_ok fuel (j + 1) (tl a 0 n) (tl_inv h hk) (by rw [hbk]; omega) (by rw [hbk]; omega)
      refine ⟨z, a', ?_, ia, e3, e4, e5, fun hq => e6 fun m hm => ?_⟩
      · refine cb_t (by rw [Bool.and_eq_true]; exact ⟨decide_eq_true (by omega), decide_eq_true (by simp [conc]; omega)⟩) ?_
        rw [e]
        simp only [Option.bind_some]
        rw [kj]; exact e2
      · have hm' : m ∈ a.qs.filter (fun m => !(m == n)) := hm
        obtain ⟨h1, h2⟩ := List.mem_filter.1 hm'
        have h3 := hq m h1
        rw [hbk]
        rcases List.mem_cons.1 h3 with h4 | h4
        · subst h4; simp at h2
        · exact h4
theorem l5_eq : ∀ (fuel : Nat) (j : Int) (w : Switchboardlaw23Net), switchboardlaw23_PortOnce_l5 fuel j w = switchboardlaw23_PortOnce_l3 fuel j w
  | 0, j, w => rfl
  | fuel + 1, j, w => by
    rw [switchboardlaw23_PortOnce_l5, switchboardlaw23_PortOnce_l3]
    congr 1
    cases switchboardlaw23_tell w 0 with
    | none => rfl
    | some t => exact l5_eq fuel _ t
theorem l4_ok : ∀ (fuel j : Nat) (a : A), Inv a → j + a.ths.length ≤ 400 → a.ths.length < fuel → a.ths.length + a.bks.length < 300 →
    ∃ z a', switchboardlaw23_PortOnce_l4 fuel (j : Int) (conc a) = some (z, conc a') ∧ Inv a' ∧ a'.ths = [] ∧ a'.s = a.s ∧ ((∀ n ∈ a.qs, n ∈ a.ths ∨ n ∈ a.bks) → ∀ n ∈ a'.qs, n ∈ a'.bks)
  | 0, j, a, h, hj, hf, hb => by omega
  | fuel + 1, j, a, h, hj, hf, hb => by
    rw [switchboardlaw23_PortOnce_l4]
    cases ht : a.ths with
    | nil =>
      refine ⟨_, a, cb_f ?_ rfl, h, ht, rfl, fun hq n hn => ?_⟩
      · rw [Bool.and_eq_false_iff]
        exact .inr (decide_eq_false (by simp [conc, ht]))
      · rcases hq n hn with h1 | h1
        · cases h1
        · exact h1
    | cons n ths =>
      have hk : a.ths[0]? = some n := by rw [ht]; rfl
      have hl : a.ths.length = ths.length + 1 := by rw [ht]; rfl
      obtain ⟨low', seen', e, ia⟩ := deliver_ok h 0 (by omega) false (k := 0) (by simp) hk
      have kj : i64w ((j : Int) + 1) = ((j + 1 : Nat) : Int) := by rw [i64w_id (by omega) (by omega)]; simp
      have hth : (dlv a low' seen' 0 n false).ths = ths := by simp [dlv, ht]
      have hbk : (dlv a low' seen' 0 n false).bks = a.bks ++ [n] := by simp [dlv]; omega
      obtain ⟨z, a', e2, ia', e3, e5, e6⟩ := l4_ok fuel (j + 1) _ ia (by rw [hth]; omega) (by rw [hth]; omega) (by rw [hth, hbk]; simp; omega)
      refine ⟨z, a', ?_, ia', e3, e5, fun hq => e6 fun m hm => ?_⟩
      · refine cb_t (by rw [Bool.and_eq_true]; exact ⟨decide_eq_true (by omega), decide_eq_true (by simp [conc]; omega)⟩) ?_
        rw [e]
        simp only [Option.bind_some]
        rw [kj]; exact e2
      · have hm' : m ∈ a.qs := hm
        rw [hth, hbk]
        rcases hq m hm' with h3 | h3
        · rcases List.mem_cons.1 h3 with h4 | h4
          · subst h4; exact .inr (by simp)
          · exact .inl h4
        · exact .inr (by simp [h3])
theorem l6_ok {a : A} (h : Inv a) (hq : a.qs = []) : ∀ (m i : Nat), i + m ≤ a.s → switchboardlaw23_PortOnce_l6 (conc a) m i = some (.out ())
  | 0, i, _ => rfl
  | m + 1, i, hm => by
    rw [switchboardlaw23_PortOnce_l6]
    have hs := h.s
    have e0 : inb (i : Int) 256 = true := by simp [inb]; omega
    have hi : isIn a.low a.seen (i : Int) := h.ack i (by omega) (by rw [hq]; simp)
    have hg : at0 (conc a).got (i : Int) = 1 := by
      have : at0 (conc a).got (i : Int) = if isIn a.low a.seen (i : Int) then 1 else 0 := got_at (by omega)
      rw [this, if_pos hi]
    exact cb_t e0 (cb_f (by rw [hg]; rfl) (l6_ok h hq m (i + 1) (by omega)))
def a0 : A := ⟨0, [], 0, [], [], []⟩
theorem a0_inv : Inv a0 :=
  ⟨by decide, trivial, fun n hn => (by cases hn), fun n hn => (by cases hn), by decide, by decide, trivial, fun n hn => (by cases hn), fun n hn => (by exact absurd hn (Nat.not_lt_zero n)), fun n hn => (by cases hn), fun n hn => (by cases hn), by decide, by decide⟩
theorem a0_got : gotL 0 [] = List.replicate 256 (0 : Int) := by kernel_rfl
theorem plain {p : List (List Int)} (hp : ∀ x ∈ p, x.length = 2 ∧ ∀ n ∈ x, (Lit.int .u8 n).wf = true) : switchboardlaw23_PortOnce p = some true := by
  unfold switchboardlaw23_PortOnce
  have e0 : (⟨(⟨(⟨0, ([] : List LinkFrame)⟩ : LinkLink), (⟨0, ([] : List Int)⟩ : WindowWindow)⟩ : PortPort), (⟨(⟨0, ([] : List LinkFrame)⟩ : LinkLink), (⟨0, ([] : List Int)⟩ : WindowWindow)⟩ : PortPort), ([] : List Str), ([] : List Str), (List.replicate 256 (0 : Int)), (0 : Int)⟩ : Switchboardlaw23Net) = conc a0 := by
    rw [← a0_got]; rfl
  rw [e0]
  obtain ⟨z, a1, e1, i1⟩ := l1_ok hp FUEL 0 a0 a0_inv (by omega) (by unfold FUEL; omega)
  have e1' : switchboardlaw23_PortOnce_l1 p FUEL 0 (conc a0) = some (.out (z, conc a1)) := e1
  rw [e1']
  simp only [Option.bind_some]
  obtain ⟨z2, a2, e2, i2, b2, t2, s2, q2⟩ := l3_ok FUEL 0 a1 i1 (by have := i1.bkl; omega) (by have := i1.bkl; unfold FUEL; omega)
  have e2' : switchboardlaw23_PortOnce_l3 FUEL 0 (conc a1) = some (z2, conc a2) := e2
  rw [e2']
  simp only [Option.bind_some]
  have hq := i2.qlen
  have e3 := again_eq ⟨⟨a2.s, a2.qs.map fr⟩, ⟨0, []⟩⟩ a2.qs rfl (fun n hn => by have := i2.ql n hn; have := i2.s; omega) (by omega)
  have e3' : port_Again (⟨(⟨(conc a2).a.Link.Next, (conc a2).a.Link.Queue⟩ : LinkLink), (⟨(conc a2).a.Window.Low, (conc a2).a.Window.Seen⟩ : WindowWindow)⟩ : PortPort) = some (a2.qs.map dm) := e3
  rw [e3']
  simp only [Option.bind_some]
  have i3 : Inv { a2 with ths := a2.qs } := ⟨i2.s, i2.q, i2.ql, i2.w, i2.low0, i2.low1, i2.seen, i2.seenl, i2.ack, i2.ql, i2.bk, by show a2.qs.length ≤ 400; omega, i2.bkl⟩
  obtain ⟨z4, a4, e4, i4, t4, s4, q4⟩ := l4_ok FUEL 0 { a2 with ths := a2.qs } i3 (by show 0 + a2.qs.length ≤ 400; omega) (by show a2.qs.length < FUEL; unfold FUEL; omega) (by show a2.qs.length + a2.bks.length < 300; rw [b2]; simp; omega)
  have e4' : switchboardlaw23_PortOnce_l4 FUEL 0 ({ conc a2 with there := a2.qs.map dm } : Switchboardlaw23Net) = some (z4, conc a4) := e4
  rw [e4']
  simp only [Option.bind_some, l5_eq]
  obtain ⟨z5, a5, e5, i5, b5, t5, s5, q5⟩ := l3_ok FUEL 0 a4 i4 (by have := i4.bkl; omega) (by have := i4.bkl; unfold FUEL; omega)
  have e5' : switchboardlaw23_PortOnce_l3 FUEL 0 (conc a4) = some (z5, conc a5) := e5
  rw [e5']
  simp only [Option.bind_some]
  have hq5 := q5 (q4 fun n hn => .inl hn)
  have hs5 := i5.s
  refine cb_t (by show limI (a5.s : Int) = true; simp [limI]; omega) ?_
  have e6 : switchboardlaw23_PortOnce_l6 (conc a5) (Int.toNat (conc a5).sent) 0 = some (.out ()) := l6_ok i5 hq5 _ 0 (by show 0 + Int.toNat (a5.s : Int) ≤ a5.s; simp)
  rw [e6]
  simp only [Option.bind_some]
  refine cb_t ?_ (by rw [awake]; rfl)
  have h1 : (conc a5).a.Link.Queue = [] := by show a5.qs.map fr = []; rw [hq5]; rfl
  have h2 : (conc a5).there = [] := by show a5.ths.map dm = []; rw [t5, t4]; rfl
  rw [h1, h2]; rfl
end Go.Sw.PO

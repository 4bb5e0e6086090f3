/- PortOnce, the plain law: the port's functions. -/
import Derived.Test.YtahaedoeckgidaaZtP2
set_option linter.unusedVariables false
set_option linter.unusedSimpArgs false
namespace Go.Sw.PO
def fr (n : Nat) : LinkFrame := ⟨(n : Int), tx n⟩
theorem told_fr (nx : Int) (qs : List Nat) (n : Nat) (h : qs.length ≤ 100000) : link_Told ⟨nx, qs.map fr⟩ (n : Int) = some ⟨nx, (qs.filter (fun m => !(m == n))).map fr⟩ := by
  rw [told_eq _ _ (by simpa using h)]
  simp only [List.filter_map]
  congr 3
  apply List.filter_congr
  intro m _
  by_cases e : m = n
  · subst e; simp [fr]
  · have h2 : ((m : Int) == (n : Int)) = false := by rw [beq_eq_false_iff_ne]; omega
    have h3 : (m == n) = false := by rw [beq_eq_false_iff_ne]; exact e
    simp only [Function.comp, fr, h2, h3]
theorem receive_A (p : PortPort) (qs : List Nat) (n : Nat) (hn : n < 251) (hq : p.Link.Queue = qs.map fr) (h : qs.length ≤ 100000) :
    port_Receive p (am n) = some (⟨⟨p.Link.Next, (qs.filter (fun m => !(m == n))).map fr⟩, p.Window⟩, [], false, [], 0) := by
  unfold port_Receive
  rw [(g_all hn).2.2.2]
  simp only [Option.bind_some]
  have h1 : ((0 : Int) != 0) = false := by decide
  have h2 : ((65 : Int) == 65) = true := by decide
  rw [h1, cond_false, h2, cond_true, hq, told_fr _ _ _ h]
  rfl
theorem receive_old (p : PortPort) (n : Nat) (hn : n < 251) (h : window_Accept p.Window (n : Int) = some (p.Window, false)) : port_Receive p (dm n) = some (p, [], false, am n, 0) := by
  unfold port_Receive
  rw [(g_all hn).2.2.1]
  simp only [Option.bind_some]
  have h1 : ((0 : Int) != 0) = false := by decide
  have h2 : ((68 : Int) == 65) = false := by decide
  rw [h1, cond_false, h2, cond_false, (g_all hn).2.1]
  simp only [Option.bind_some, h, Bool.not_false, cond_true]
theorem receive_new (p : PortPort) (w : WindowWindow) (n : Nat) (hn : n < 251) (h : window_Accept p.Window (n : Int) = some (w, true)) : port_Receive p (dm n) = some (⟨p.Link, w⟩, tx n, true, am n, 0) := by
  unfold port_Receive
  rw [(g_all hn).2.2.1]
  simp only [Option.bind_some]
  have h1 : ((0 : Int) != 0) = false := by decide
  have h2 : ((68 : Int) == 65) = false := by decide
  rw [h1, cond_false, h2, cond_false, (g_all hn).2.1]
  simp only [Option.bind_some, h, Bool.not_true, cond_false]
theorem again_l1 : ∀ (qs : List Nat) (i : Nat) (acc : List Str), (∀ n ∈ qs, n < 251) → acc.length + qs.length ≤ 100000 → port_Again_l1 (qs.map fr) i acc = some (acc ++ qs.map dm)
  | [], i, acc, _, _ => by simp [port_Again_l1]
  | n :: qs, i, acc, h, hl => by
    rw [List.map_cons, port_Again_l1]
    have e : port_Pack 68 (fr n).Seq (fr n).Text = some (dm n, 0) := (g_all (h n (by simp))).1
    have h1 : ((0 : Int) == 0) = true := by decide
    have h2 : lim (acc.length + [dm n].length) = true := by simp [lim]; simp at hl; omega
    rw [e]
    simp only [Option.bind_some, h1, cond_true, h2]
    rw [again_l1 qs (i + 1) (acc ++ [dm n]) (fun m hm => h m (by simp [hm])) (by simp at hl ⊢; omega)]
    simp
theorem again_eq (p : PortPort) (qs : List Nat) (hq : p.Link.Queue = qs.map fr) (h : ∀ n ∈ qs, n < 251) (hl : qs.length ≤ 1000) : port_Again p = some (qs.map dm) := by
  unfold port_Again
  rw [hq, again_l1 qs 0 [] h (by simp; omega)]
  simp
theorem link_right_l1 (l : LinkLink) : ∀ (qs : List Nat) (i : Nat) (last : Int), inc last (qs.map Int.ofNat) → (∀ n ∈ qs, (n : Int) < l.Next) → ∃ z, link_Right_l1 l (qs.map fr) i last = some (.out z)
  | [], i, last, _, _ => ⟨last, by rw [List.map_nil, link_Right_l1]⟩
  | n :: qs, i, last, h, hx => by
    obtain ⟨z, hz⟩ := link_right_l1 l qs (i + 1) (n : Int) h.2 (fun y hy => hx y (by simp [hy]))
    have h1 : last < (n : Int) := h.1
    have h2 := hx n (by simp)
    refine ⟨z, ?_⟩
    rw [List.map_cons, link_Right_l1]
    have e1 : decide ((fr n).Seq ≤ last) = false := decide_eq_false (by show ¬ (n : Int) ≤ last; omega)
    have e2 : decide (l.Next ≤ (fr n).Seq) = false := decide_eq_false (by show ¬ l.Next ≤ (n : Int); omega)
    rw [e1, e2, Bool.or_false, cond_false]
    exact hz
def sc (s : Nat) : List Nat → Bool
  | [] => true
  | q :: _ => decide (s < q + 32)
theorem send_eq (s : Nat) (qs : List Nat) (w : WindowWindow) (hs : s ≤ 250) (hq : inc (-1) (qs.map Int.ofNat)) (hx : ∀ n ∈ qs, n < s) (hl : qs.length ≤ 63) :
    port_Send ⟨⟨s, qs.map fr⟩, w⟩ (tx s) = some (bif (sc s qs) then (⟨⟨((s + 1 : Nat) : Int), (qs ++ [s]).map fr⟩, w⟩, dm s, 0) else (⟨⟨s, qs.map fr⟩, w⟩, [], 8)) := by
  obtain ⟨z, hz⟩ := link_right_l1 ⟨s, qs.map fr⟩ qs 0 (-1) hq (fun n hn => by have := hx n hn; simp; omega)
  have hr : link_Right ⟨s, qs.map fr⟩ = some true := by
    unfold link_Right
    simp only [hz, Option.bind_some]
    have h1 : (0 : Int) ≤ s := by omega
    have h2 : (s : Int) ≤ 2147483647 := by omega
    have h3 : ((qs.map fr).length : Int) ≤ 64 := by simp; omega
    simp only [h1, h2, h3, decide_true, Bool.and_self]
  have hp : link_Push ⟨s, qs.map fr⟩ (tx s) = some (⟨((s + 1 : Nat) : Int), (qs ++ [s]).map fr⟩, (s : Int), 0) := by
    unfold link_Push
    rw [hr]
    have h1 : ((s : Int) == 2147483647) = false := by simp; omega
    have h2 : (((qs.map fr).length : Int) == 64) = false := by simp; omega
    have h3 : slices_Clone_link_Frame (qs.map fr) = some (qs.map fr) := by
      unfold slices_Clone_link_Frame cloneM
      have : lim (qs.map fr).length = true := by simp [lim]; omega
      rw [this, cond_true]
    have h4 : lim ((qs.map fr).length + 1) = true := by simp [lim]; omega
    have h5 : i64w ((s : Int) + 1) = ((s + 1 : Nat) : Int) := by rw [i64w_id (by omega) (by omega)]; simp
    simp only [Option.bind_some, Bool.not_true, Bool.false_or, h1, h2, h3, cond_false, List.length_singleton, h4, cond_true, h5]
    simp [fr]
  unfold port_Send
  rw [hp]
  have h1 : ((0 : Int) == 1) = false := by decide
  have h2 : ((0 : Int) != 0) = false := by decide
  simp only [Option.bind_some, h1, cond_false, h2]
  cases qs with
  | nil => simp [sc, (g_all (show s < 251 by omega)).1]
  | cons q qs =>
    have hqs := hx q (by simp)
    have h3 : decide (0 < (((q :: qs).map fr).length : Int)) = true := by simp <;> omega
    have h4 : inb 0 ((q :: qs).map fr).length = true := by simp [inb] <;> omega
    have h5 : (at0 ((q :: qs).map fr) 0).Seq = (q : Int) := rfl
    have h6 : i64w ((s : Int) - (q : Int)) = (s : Int) - q := i64w_id (by omega) (by omega)
    rw [h3, cond_true, h4, cond_true, h5, h6]
    by_cases hc : s < q + 32
    · have h7 : decide (32 ≤ (s : Int) - q) = false := by simp; omega
      rw [h7, cond_false]
      simp [sc, (g_all (show s < 251 by omega)).1, hc]
    · have h7 : decide (32 ≤ (s : Int) - q) = true := by simp; omega
      rw [h7, cond_true]
      simp [sc, hc]
end Go.Sw.PO

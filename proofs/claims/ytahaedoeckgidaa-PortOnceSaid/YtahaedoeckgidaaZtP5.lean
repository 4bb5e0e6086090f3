/- PortOnce, the plain law: tell, act. -/
import Derived.Test.YtahaedoeckgidaaZtP4
set_option linter.unusedVariables false
set_option linter.unusedSimpArgs false
set_option maxRecDepth 100000
namespace Go.Sw.PO
theorem inc_filter (p : Nat → Bool) : ∀ {l : List Nat} {lo : Int}, inc lo (l.map Int.ofNat) → inc lo ((l.filter p).map Int.ofNat)
  | [], _, _ => trivial
  | x :: l, lo, h => by
    rw [List.filter_cons]
    split
    · exact ⟨h.1, inc_filter p h.2⟩
    · exact inc_mono (inc_filter p h.2) (by have := h.1; omega)
def tl (a : A) (k n : Nat) : A := { a with qs := a.qs.filter (fun m => !(m == n)), bks := a.bks.eraseIdx k }
theorem tl_inv {a : A} (h : Inv a) {k n : Nat} (hk : a.bks[k]? = some n) : Inv (tl a k n) := by
  obtain ⟨hkl, hkn⟩ := List.getElem?_eq_some_iff.1 hk
  have hr := (h.bk n (hkn ▸ List.getElem_mem hkl)).2
  refine ⟨h.s, inc_filter _ h.q, fun m hm => h.ql m (List.mem_filter.1 hm).1, fun m hm => h.w m (List.mem_filter.1 hm).1, h.low0, h.low1, h.seen, h.seenl, fun m hm hq => ?_, h.th, fun m hm => h.bk m (List.mem_of_mem_eraseIdx hm), h.thl, ?_⟩
  · by_cases e : m = n
    · rw [e]; exact hr
    · exact h.ack m hm fun hq2 => hq (List.mem_filter.2 ⟨hq2, by simp [e]⟩)
  · have := h.bkl
    have := List.length_eraseIdx_le a.bks k
    show (a.bks.eraseIdx k).length ≤ 300
    omega
theorem tell_nil {a : A} (h : a.bks = []) (i : Int) : switchboardlaw23_tell (conc a) i = some (conc a) := by
  unfold switchboardlaw23_tell
  simp [conc, h]
theorem tell_ok {a : A} (h : Inv a) (i : Int) (hi : 0 ≤ i) {k n : Nat} (hkk : i.toNat % a.bks.length = k) (hnn' : a.bks[k]? = some n) : switchboardlaw23_tell (conc a) i = some (conc (tl a k n)) := by
  obtain ⟨hk, hnn⟩ := List.getElem?_eq_some_iff.1 hnn'
  have hne : 0 < a.bks.length := by omega
  have hn : n < a.s := (h.bk n (hnn ▸ List.getElem_mem hk)).1
  have hs := h.s
  have hb := h.bkl
  have c1 : (((a.bks.map am).length : Int) == 0) = false := by simp; intro h0; rw [h0] at hne; simp at hne
  have c2 : (((a.bks.map am).length : Int) != 0) = true := by rw [bne, c1]; rfl
  have c3 : Int.tmod i ((a.bks.map am).length : Int) = (k : Int) := by rw [List.length_map, tmod_nat hi hne, hkk]
  have c4 : inb (k : Int) (a.bks.map am).length = true := by simp [inb, hk]
  have c5 : at0 (a.bks.map am) (k : Int) = am n := by rw [at0_map (α := Nat) hk, hnn]
  have c8 : switchboardref08_Without (a.bks.map am) (k : Int) = some ((a.bks.eraseIdx k).map am) := by rw [without_eq _ _ (by simp; omega), map_erase]
  have hrec := receive_A ⟨⟨a.s, a.qs.map fr⟩, ⟨0, []⟩⟩ a.qs n (by omega) rfl (by have := h.qlen; omega)
  unfold switchboardlaw23_tell
  simp only [conc, c1, cond_false, c2, cond_true, c3, c4, c5, hrec, Option.bind_some, c8, tl]
def sn (a : A) : A := { a with s := a.s + 1, qs := a.qs ++ [a.s], ths := a.ths ++ [a.s] }
theorem inc_app : ∀ {l : List Int} {lo x : Int}, inc lo l → (∀ y ∈ l, y < x) → lo < x → inc lo (l ++ [x])
  | [], lo, x, _, _, h => ⟨h, trivial⟩
  | y :: l, lo, x, h, hy, hx => ⟨h.1, inc_app h.2 (fun z hz => hy z (by simp [hz])) (hy y (by simp))⟩
theorem head_le : ∀ {l : List Nat} {q : Nat} {lo : Int}, inc lo ((q :: l).map Int.ofNat) → ∀ n ∈ q :: l, q ≤ n := fun {l q lo} h n hn => by
  rcases List.mem_cons.1 hn with rfl | hn
  · exact Nat.le_refl _
  · have := inc_lt h.2 (n : Int) (List.mem_map.2 ⟨n, hn, rfl⟩)
    have h2 : (q : Int) < n := this
    omega
theorem sn_inv {a : A} (h : Inv a) (hs : a.s < 250) (hw : ∀ n ∈ a.qs, a.s < n + 32) (ht : a.ths.length < 300) : Inv (sn a) := by
  refine ⟨by show a.s + 1 ≤ 250; omega, ?_, fun n hn => ?_, fun n hn => ?_, h.low0, by have := h.low1; show a.low ≤ ((a.s + 1 : Nat) : Int); omega, h.seen, fun x hx => by have := h.seenl x hx; show x < ((a.s + 1 : Nat) : Int); omega, fun n hn hq => ?_, fun n hn => ?_, fun n hn => ?_, by show (a.ths ++ [a.s]).length ≤ 400; simp; omega, h.bkl⟩
  · show inc (-1) ((a.qs ++ [a.s]).map Int.ofNat)
    rw [List.map_append]
    refine inc_app h.q (fun y hy => ?_) (by show (-1 : Int) < (a.s : Int); omega)
    obtain ⟨m, hm, rfl⟩ := List.mem_map.1 hy
    have := h.ql m hm
    show (m : Int) < (a.s : Int); omega
  · show n < a.s + 1
    rcases List.mem_append.1 hn with hn | hn
    · have := h.ql n hn; omega
    · simp at hn; omega
  · show a.s + 1 ≤ n + 32
    rcases List.mem_append.1 hn with hn | hn
    · have := hw n hn; omega
    · simp at hn; omega
  · have hn' : n < a.s + 1 := hn
    have hq1 : n ∉ a.qs := fun h1 => hq (List.mem_append.2 (.inl h1))
    have hq2 : n ≠ a.s := fun h1 => hq (List.mem_append.2 (.inr (by simp [h1])))
    exact h.ack n (by omega) hq1
  · show n < a.s + 1
    rcases List.mem_append.1 hn with hn | hn
    · have := h.th n hn; omega
    · simp at hn; omega
  · have := h.bk n hn
    exact ⟨by show n < a.s + 1; omega, this.2⟩
end Go.Sw.PO

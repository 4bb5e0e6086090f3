/- The plain law: maps stay right. -/
import Derived.Test.YtahaedoeckgidaaGreatPlI
set_option linter.unusedVariables false
set_option linter.unusedSimpArgs false
namespace Go.Sw.FL
/-! ### a holder is deleted -/
theorem ret1 (f : Int) (q : Int) : place_Retire_1 f q = some (f == q) := rfl
theorem rindex_l1 (q : Int) : ∀ (xs : List Int) (k : Nat), slices_IndexFunc_int_place_Retire_1_l1 q xs k = some (match xs.findIdx? (fun f => f == q) with | some j => .ret ((j + k : Nat) : Int) | none => .out ())
 | [], k => by simp [slices_IndexFunc_int_place_Retire_1_l1]
 | x :: xs, k => by
  rw [slices_IndexFunc_int_place_Retire_1_l1, ret1]
  simp only [Option.bind_some]
  cases h : x == q with
  | true => simp [List.findIdx?_cons, h]
  | false =>
   rw [cond_false, rindex_l1 q xs (k + 1)]
   simp only [List.findIdx?_cons, h]
   cases xs.findIdx? (fun f => f == q) <;> simp <;> omega
theorem rdelete_l1 (q : Int) : ∀ (fuel : Nat) (v : List Int) (i j : Nat), i ≤ j → j ≤ v.length → v.length ≤ 100000 → v.length - j < fuel →
  ∃ (v' : List Int) (i' : Nat) (z : Int), slices_DeleteFunc_int_place_Retire_1_l1 q fuel v i j = some (v', (i' : Int), z) ∧ v'.length = v.length ∧ i' ≤ v'.length ∧ v'.take i' = v.take i ++ (v.drop j).filter (fun f => !(f == q))
 | 0, v, i, j, _, _, _, h => by omega
 | fuel + 1, v, i, j, hij, hj, hn, hf => by
  rw [slices_DeleteFunc_int_place_Retire_1_l1]
  by_cases he : j = v.length
  ·have h1 : decide ((j : Int) < (v.length : Int)) = false := by simp; omega
   rw [h1, cond_false]
   refine ⟨v, i, _, rfl, rfl, by omega, ?_⟩
   rw [he]; simp
  ·have hlt : j < v.length := by omega
   have h1 : decide ((j : Int) < (v.length : Int)) = true := by simp; omega
   have h2 : inb (j : Int) v.length = true := by simp [inb]; omega
   have h3 : inb (i : Int) v.length = true := by simp [inb]; omega
   have hx : at0 v (j : Int) = v[j] := by simp [at0, List.getD, hlt]
   have hw : i64w ((j : Int) + 1) = ((j + 1 : Nat) : Int) := by rw [i64w_eq (by omega) (by omega)]; simp
   have hwi : i64w ((i : Int) + 1) = ((i + 1 : Nat) : Int) := by rw [i64w_eq (by omega) (by omega)]; simp
   rw [h1, cond_true, h2, cond_true, ret1]
   simp only [Option.bind_some, hx, hw, hwi, h3, cond_true, Int.toNat_natCast]
   have hd : v.drop j = v[j] :: v.drop (j + 1) := List.drop_eq_getElem_cons hlt
   cases hq : v[j] == q with
   | true =>
    simp only [Bool.not_true, cond_false]
    obtain ⟨v', i', z, e1, e2, e3, e4⟩ := rdelete_l1 q fuel v i (j + 1) (by omega) (by omega) hn (by omega)
    refine ⟨v', i', z, e1, e2, e3, ?_⟩
    rw [e4, hd, List.filter_cons, hq]; simp
   | false =>
    simp only [Bool.not_false, cond_true]
    obtain ⟨v', i', z, e1, e2, e3, e4⟩ := rdelete_l1 q fuel (v.set i v[j]) (i + 1) (j + 1) (by omega) (by simp; omega) (by simpa using hn) (by simp; omega)
    refine ⟨v', i', z, e1, by simpa using e2, e3, ?_⟩
    rw [e4, hd, List.filter_cons, hq]
    simp only [Bool.not_false, if_true]
    have ht : (v.set i v[j]).take (i + 1) = v.take i ++ [v[j]] := by
     rw [List.take_succ_eq_append_getElem (by simp; omega)]
     simp [List.take_set]
     rw [List.set_eq_of_length_le (by simp; omega)]
    have hdr : (v.set i v[j]).drop (j + 1) = v.drop (j + 1) := by rw [List.drop_set, if_pos (by omega)]
    rw [ht, hdr]; simp
theorem rdelete_eq (xs : List Int) (q : Int) (hn : xs.length ≤ 100000) : slices_DeleteFunc_int_place_Retire_1 xs q = some (xs.filter (fun f => !(f == q))) := by
 unfold slices_DeleteFunc_int_place_Retire_1 slices_IndexFunc_int_place_Retire_1
 rw [rindex_l1]
 simp only [Option.bind_some]
 cases hk : xs.findIdx? (fun f => f == q) with
 | none =>
  have hall : xs.filter (fun f => !(f == q)) = xs := by
   rw [List.filter_eq_self]
   intro f hf
   have := List.findIdx?_eq_none_iff.1 hk f hf
   simp [this]
  simp [hall]
 | some k =>
  obtain ⟨hk1, hk2, hk3⟩ := List.findIdx?_eq_some_iff_getElem.1 hk
  have hw : i64w ((k : Int) + 1) = ((k + 1 : Nat) : Int) := by rw [i64w_eq (by omega) (by omega)]; simp
  have hne : (((k : Nat) : Int) == -1) = false := by simp
  obtain ⟨v', i', z, e1, e2, e3, e4⟩ := rdelete_l1 q FUEL xs k (k + 1) (by omega) (by omega) hn (by unfold FUEL; omega)
  simp only [Option.bind_some, Nat.add_zero, hne, cond_false, hw, e1]
  have hok : cutOk (i' : Int) (v'.length : Int) v'.length = true := by simp [cutOk]; omega
  rw [hok, cond_true]
  have hl : lcut v' 0 (i' : Int) = v'.take i' := by simp [lcut]
  rw [hl, e4]
  congr 1
  conv => rhs; rw [← List.take_append_drop (k + 1) xs]
  rw [List.filter_append]
  congr 1
  rw [List.take_succ_eq_append_getElem hk1, List.filter_append]
  have h1 : (xs.take k).filter (fun f => !(f == q)) = xs.take k := by
   rw [List.filter_eq_self]
   intro f hf
   obtain ⟨j, hj⟩ := List.getElem?_of_mem hf
   rw [List.getElem?_take] at hj
   split at hj
   ·next hjk =>
    have := hk3 j hjk
    rw [List.getElem?_eq_getElem (by omega)] at hj
    injection hj with hj
    rw [← hj]; simpa using this
   ·cases hj
  rw [h1]
  simp only [List.filter_cons, hk2]; simp
/-! ### right maps -/
theorem incB_iff : ∀ (l : List Int) (lo : Int), incB lo l = true ↔ (l.Pairwise (· < ·) ∧ ∀ x ∈ l, lo < x ∧ x ≤ 4)
 | [], lo => by simp [incB]
 | x :: l, lo => by
  rw [incB, Bool.and_eq_true, Bool.and_eq_true, decide_eq_true_eq, decide_eq_true_eq, incB_iff l x, List.pairwise_cons]
  constructor
  ·rintro ⟨⟨h1, h2⟩, h3, h4⟩
   refine ⟨⟨fun y hy => (h4 y hy).1, h3⟩, fun y hy => ?_⟩
   rcases List.mem_cons.1 hy with rfl | hy
   ·exact ⟨h1, h2⟩
   ·have := h4 y hy; omega
  ·rintro ⟨⟨h1, h2⟩, h3⟩
   have := h3 x (by simp)
   exact ⟨⟨this.1, this.2⟩, h2, fun y hy => ⟨h1 y hy, (h3 y (by simp [hy])).2⟩⟩
/-- The holders of an expert, when they are right. -/
def hol (l : List Int) : Prop := (l.Pairwise (· < ·) ∧ ∀ x ∈ l, 0 < x ∧ x ≤ 4) ∧ l ≠ []
theorem holB_iff (l : List Int) : holB l = true ↔ hol l := by
 unfold holB hol
 rw [Bool.and_eq_true, incB_iff]
 cases l with
 | nil => simp
 | cons x l => simp; intros; omega
def plP (p : PlaceMap) : Prop := (∀ l ∈ p.Holders, hol l) ∧ (0 ≤ p.Epoch ∧ p.Epoch ≤ 2147483647) ∧ p.Holders.length ≤ 8
theorem plB_iff (p : PlaceMap) : plB p = true ↔ plP p := by
 unfold plB plP
 simp only [Bool.and_eq_true, List.all_eq_true, decide_eq_true_eq, holB_iff]
 constructor
 ·rintro ⟨h1, h2, h3⟩; exact ⟨h1, h2, by omega⟩
 ·rintro ⟨h1, h2, h3⟩; exact ⟨h1, h2, by omega⟩
theorem hol_len {l : List Int} (h : hol l) : l.length ≤ 4 := by
 have key : ∀ (l : List Int) (lo : Int), 0 ≤ lo → lo ≤ 4 → l.Pairwise (· < ·) → (∀ x ∈ l, lo < x ∧ x ≤ 4) → (l.length : Int) ≤ 4 - lo := by
  intro l
  induction l with
  | nil => intro lo h0 h4 _ _; simp; omega
  | cons x l ih =>
   intro lo h0 h4 hp hx
   rw [List.pairwise_cons] at hp
   have := hx x (by simp)
   have h1 := ih x (by omega) (by omega) hp.2 (fun y hy => ⟨hp.1 y hy, (hx y (by simp [hy])).2⟩)
   simp; omega
 have := key l 0 (by omega) (by omega) h.1.1 h.1.2
 omega
theorem may_pl (p : PlaceMap) (h : plP p) (x n : Int) : place_may p x n = some (decide ((0 ≤ x ∧ x < p.Holders.length) ∧ (1 ≤ n ∧ n ≤ 4) ∧ p.Epoch < 2147483647)) := by
 unfold place_may
 rw [plR_eq, (plB_iff p).2 h]
 simp only [Option.bind_some, Bool.true_and]
 congr 1
 rw [Bool.eq_iff_iff]
 simp only [Bool.and_eq_true, decide_eq_true_eq]
 constructor
 ·rintro ⟨⟨⟨⟨a, b⟩, c⟩, d⟩, e⟩; exact ⟨⟨a, b⟩, ⟨c, d⟩, e⟩
 ·rintro ⟨⟨a, b⟩, ⟨c, d⟩, e⟩; exact ⟨⟨⟨⟨a, b⟩, c⟩, d⟩, e⟩
theorem cint_l1 (q : Int) : ∀ (l : List Int) (i : Nat), (q ∈ l ∧ ∃ j : Nat, slices_Index_int_l1 q l i = some (.ret (j : Int))) ∨ (q ∉ l ∧ slices_Index_int_l1 q l i = some (.out ()))
 | [], i => .inr ⟨by simp, rfl⟩
 | x :: l, i => by
  rw [slices_Index_int_l1]
  by_cases h : q = x
  ·subst h
   exact .inl ⟨by simp, i, cb_t (by simp) rfl⟩
  ·rcases cint_l1 q l (i + 1) with ⟨h1, j, h2⟩ | ⟨h1, h2⟩
   ·exact .inl ⟨by simp [h1], j, cb_f (by simpa using h) h2⟩
   ·exact .inr ⟨by simp [h, h1], cb_f (by simpa using h) h2⟩
theorem cint_eq (q : Int) (l : List Int) : slices_Contains_int l q = some (decide (q ∈ l)) := by
 unfold slices_Contains_int slices_Index_int
 rcases cint_l1 q l 0 with ⟨h1, j, h2⟩ | ⟨h1, h2⟩
 ·refine bd_s (bd_s h2 rfl) ?_
  rw [decide_eq_true h1]; simp
 ·refine bd_s (bd_s h2 rfl) ?_
  rw [decide_eq_false h1]; rfl
theorem holds_eq (p : PlaceMap) (x n : Int) (h0 : 0 ≤ x) (h1 : x < p.Holders.length) : place_Holds p x n = some (decide (n ∈ at0 p.Holders x)) := by
 unfold place_Holds
 refine cb_t (by simp; omega) (cb_t (by simp [inb]; omega) (bd_s (cint_eq _ _) rfl))
theorem turned_eq {p : PlaceMap} (h : plP p) {x : Int} {l : List Int} (h0 : 0 ≤ x) (h1 : x < p.Holders.length) (he : p.Epoch < 2147483647) (hl : hol l) : ∃ q, place_turned p x l = some q ∧ plP q ∧ q.Holders.length = p.Holders.length := by
 have h8 := h.2.2
 refine ⟨⟨p.Epoch + 1, p.Holders.set x.toNat l⟩, ?_, ⟨fun y hy => ?_, ⟨?_, ?_⟩, by simpa using h8⟩, by simp⟩
 ·unfold place_turned slices_Clone__int
  rw [clone_eq (by omega)]
  refine bd_s rfl (cb_t (by simp [inb]; omega) ?_)
  have := h.2.1
  rw [i64w_eq (by omega) (by omega)]
 ·rcases List.mem_or_eq_of_mem_set hy with hy | rfl
  ·exact h.1 y hy
  ·exact hl
 ·have := h.2.1; show 0 ≤ p.Epoch + 1; omega
 ·show p.Epoch + 1 ≤ 2147483647; omega
theorem hol_add {l : List Int} (h : hol l) {n : Int} (hn : n ∉ l) (h1 : 1 ≤ n) (h4 : n ≤ 4) : hol (sortI (l ++ [n])) := by
 have hp := sortI_perm (l ++ [n])
 have hs := sortI_sorted (l ++ [n])
 have hnd : (l ++ [n]).Nodup := by
  rw [List.nodup_append]
  refine ⟨h.1.1.imp (fun {a b} hab => by omega), by simp, fun a ha b hb => ?_⟩
  simp at hb; subst hb; exact fun e => hn (e ▸ ha)
 have hnd2 : (sortI (l ++ [n])).Nodup := hp.nodup_iff.2 hnd
 refine ⟨⟨?_, fun x hx => ?_⟩, fun e => ?_⟩
 ·have := hs.and hnd2
  exact this.imp (fun {a b} hab => by have := hab.1; have := hab.2; omega)
 ·have := hp.mem_iff.1 hx
  rcases List.mem_append.1 this with hx | hx
  ·exact h.1.2 x hx
  ·simp at hx; omega
 ·have := hp.length_eq; rw [e] at this; simp at this
theorem add_pl {p : PlaceMap} (h : plP p) (x n : Int) : ∃ q e, place_Add p x n = some (q, e) ∧ plP q ∧ q.Holders.length = p.Holders.length := by
 unfold place_Add
 by_cases hm : (0 ≤ x ∧ x < p.Holders.length) ∧ (1 ≤ n ∧ n ≤ 4) ∧ p.Epoch < 2147483647
 ·obtain ⟨⟨h0, h1⟩, ⟨h2, h3⟩, he⟩ := hm
  have hl : hol (at0 p.Holders x) := h.1 _ (at0_mem h0 h1)
  have hll := hol_len hl
  by_cases hh : n ∈ at0 p.Holders x
  ·exact ⟨p, 5, bd_s (may_pl p h x n) (cb_f (by simp; omega) (bd_s (holds_eq p x n h0 h1) (cb_t (by simpa using hh) rfl))), h, rfl⟩
  ·obtain ⟨q, e1, e2, e3⟩ := turned_eq h h0 h1 he (hol_add hl hh h2 h3)
   refine ⟨q, 0, bd_s (may_pl p h x n) (cb_f (by simp; omega) (bd_s (holds_eq p x n h0 h1) (cb_f (by simpa using hh) (cb_t (by simp [inb]; omega) (bd_s (clone_eq (by omega)) (cb_t (lim_t (by simp; omega)) (bd_s (x := sortI (at0 p.Holders x ++ [n])) ?_ (bd_s e1 rfl)))))))), e2, e3⟩
   unfold slices_Sort_int
   refine cb_t ?_ rfl
   rw [Bool.and_eq_true]
   exact ⟨by simp, lim_t (by simp; omega)⟩
 ·exact ⟨p, 1, bd_s (may_pl p h x n) (cb_t (by rw [decide_eq_false hm]; rfl) rfl), h, rfl⟩
theorem hol_del {l : List Int} (h : hol l) {n : Int} (h1 : l.length ≠ 1) : hol (l.filter (fun f => !(f == n))) := by
 refine ⟨⟨h.1.1.filter _, fun x hx => h.1.2 x (List.mem_filter.1 hx).1⟩, fun e => ?_⟩
 rw [List.filter_eq_nil_iff] at e
 match l, h, h1, e with
 | [], h, _, _ => exact h.2 rfl
 | [x], _, h1, _ => exact h1 rfl
 | x :: y :: l, h, _, e =>
  have e1 := e x (by simp)
  have e2 := e y (by simp)
  simp at e1 e2
  have := h.1.1
  rw [List.pairwise_cons] at this
  have := this.1 y (by simp)
  omega
theorem retire_pl {p : PlaceMap} (h : plP p) (x n : Int) : ∃ q e, place_Retire p x n = some (q, e) ∧ plP q ∧ q.Holders.length = p.Holders.length := by
 unfold place_Retire
 by_cases hm : (0 ≤ x ∧ x < p.Holders.length) ∧ (1 ≤ n ∧ n ≤ 4) ∧ p.Epoch < 2147483647
 ·obtain ⟨⟨h0, h1⟩, ⟨h2, h3⟩, he⟩ := hm
  have hl : hol (at0 p.Holders x) := h.1 _ (at0_mem h0 h1)
  have hll := hol_len hl
  by_cases hh : n ∈ at0 p.Holders x
  ·by_cases h1l : (at0 p.Holders x).length = 1
   ·exact ⟨p, 7, bd_s (may_pl p h x n) (cb_f (by simp; omega) (bd_s (holds_eq p x n h0 h1) (cb_f (by simpa using hh) (cb_t (by simp [inb]; omega) (cb_t (by simp [h1l]) rfl))))), h, rfl⟩
   ·obtain ⟨q, e1, e2, e3⟩ := turned_eq h h0 h1 he (hol_del (n := n) hl h1l)
    exact ⟨q, 0, bd_s (may_pl p h x n) (cb_f (by simp; omega) (bd_s (holds_eq p x n h0 h1) (cb_f (by simpa using hh) (cb_t (by simp [inb]; omega) (cb_f (by simp; omega) (cb_t (by simp [inb]; omega) (bd_s (clone_eq (by omega)) (bd_s (rdelete_eq _ n (by omega)) (bd_s e1 rfl))))))))), e2, e3⟩
  ·exact ⟨p, 4, bd_s (may_pl p h x n) (cb_f (by simp; omega) (bd_s (holds_eq p x n h0 h1) (cb_t (by simpa using hh) rfl))), h, rfl⟩
 ·exact ⟨p, 1, bd_s (may_pl p h x n) (cb_t (by rw [decide_eq_false hm]; rfl) rfl), h, rfl⟩
/-- Who is picked. -/
def pickTo (p : PlaceMap) (x k : Int) : Int := at0 (at0 p.Holders x) (Int.tmod k ((at0 p.Holders x).length : Int))
theorem pick_eq {p : PlaceMap} (h : plP p) {x k : Int} (h0 : 0 ≤ x) (h1 : x < p.Holders.length) (hk : 0 ≤ k) : place_Pick p x k = some (pickTo p x k, true) ∧ pickTo p x k ∈ at0 p.Holders x ∧ (1 ≤ pickTo p x k ∧ pickTo p x k ≤ 4) := by
 have hl : hol (at0 p.Holders x) := h.1 _ (at0_mem h0 h1)
 have hn : 0 < (at0 p.Holders x).length := List.length_pos_iff.2 hl.2
 have ht : 0 ≤ Int.tmod k ((at0 p.Holders x).length : Int) ∧ Int.tmod k ((at0 p.Holders x).length : Int) < ((at0 p.Holders x).length : Int) := by
  rw [Int.tmod_eq_emod_of_nonneg hk]
  exact ⟨Int.emod_nonneg _ (by omega), Int.emod_lt_of_pos _ (by omega)⟩
 have hmem : pickTo p x k ∈ at0 p.Holders x := at0_mem ht.1 ht.2
 refine ⟨?_, hmem, ?_⟩
 ·unfold place_Pick
  rw [plR_eq, (plB_iff p).2 h]
  refine bd_s rfl (cb_f (by simp; omega) (cb_t (by simp [inb]; omega) (cb_t (by simpa using hl.2) (cb_t (by simp [inb]; omega) rfl))))
 ·have := hl.1.2 _ hmem; omega
end Go.Sw.FL

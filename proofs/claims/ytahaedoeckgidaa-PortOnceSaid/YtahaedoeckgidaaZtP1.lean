/- PortOnce, the plain law: lists. -/
import Derived.Test.YtahaedoeckgidaaZtP0
set_option linter.unusedVariables false
set_option linter.unusedSimpArgs false
namespace Go.Sw.PO
theorem i64w_id {x : Int} (h1 : -9223372036854775808 ≤ x) (h2 : x < 9223372036854775808) : i64w x = x := by
  have e : (2 : Int) ^ IntKind.i64.bits = 18446744073709551616 := by decide
  have e2 : (2 : Int) ^ (IntKind.i64.bits - 1) = 9223372036854775808 := by decide
  have e3 : IntKind.i64.signed = true := rfl
  unfold i64w IntKind.wrap
  simp only [e, e2, e3, Bool.true_and, decide_eq_true_eq]
  split <;> omega
theorem good_of : ∀ {m n : Nat}, goods m = true → n < m → good n = true
  | 0, n, _, h => by omega
  | m + 1, n, hg, h => by
    simp only [goods, Bool.and_eq_true] at hg
    by_cases e : n = m
    · subst e; exact hg.1
    · exact good_of hg.2 (by omega)
section
variable {n : Nat}
theorem g_all (h : n < 251) : port_Pack 68 n (tx n) = some (dm n, 0) ∧ port_Pack 65 n [] = some (am n, 0) ∧ port_Unpack (dm n) = some (68, (n : Int), tx n, 0) ∧ port_Unpack (am n) = some (65, (n : Int), [], 0) := by
  have := good_of goods251 h
  simpa [good, and_assoc] using this
end
theorem am_inj {m n : Nat} (hm : m < 251) (hn : n < 251) (h : am m = am n) : m = n := by
  have h1 := (g_all hm).2.2.2
  rw [h, (g_all hn).2.2.2] at h1
  simp at h1; omega

/-- All but one place. -/
theorem without_l1 (l : List Str) (i : Nat) : ∀ (suf pre : List Str) (fuel : Nat) (acc : List Str), l = pre ++ suf → l.length ≤ 100000 → acc.length ≤ pre.length → suf.length < fuel →
    ∃ z, switchboardref08_Without_l1 l i fuel acc pre.length = some (acc ++ (if i < pre.length then suf else suf.eraseIdx (i - pre.length)), z)
  | [], pre, 0, acc, _, _, _, h => by simp at h
  | [], pre, fuel + 1, acc, hl, hn, ha, _ => by
    refine ⟨pre.length, ?_⟩
    rw [switchboardref08_Without_l1]
    have h1 : decide ((pre.length : Int) < (l.length : Int)) = false := by rw [hl]; simp
    rw [h1, cond_false]
    simp
  | x :: suf, pre, 0, acc, _, _, _, h => by simp at h
  | x :: suf, pre, fuel + 1, acc, hl, hn, ha, hf => by
    have hlen : l.length = pre.length + (suf.length + 1) := by rw [hl]; simp
    have hx : at0 l (pre.length : Int) = x := by simp [at0, hl]
    have hw : i64w ((pre.length : Int) + 1) = ((pre ++ [x]).length : Nat) := by rw [i64w_id (by omega) (by omega)]; simp
    rw [switchboardref08_Without_l1]
    have h1 : decide ((pre.length : Int) < (l.length : Int)) = true := by simp; omega
    have h2 : inb (pre.length : Int) l.length = true := by simp [inb]; omega
    rw [h1, cond_true, h2, cond_true, hx, hw]
    by_cases he : pre.length = i
    · obtain ⟨z, hz⟩ := without_l1 l i suf (pre ++ [x]) fuel acc (by simp [hl]) hn (by simp; omega) (by simp at hf; omega)
      refine ⟨z, ?_⟩
      have h3 : ((pre.length : Int) != (i : Int)) = false := by simp [he]
      rw [h3, cond_false, hz, if_pos (by simp; omega), if_neg (by omega)]
      simp [he]
    · obtain ⟨z, hz⟩ := without_l1 l i suf (pre ++ [x]) fuel (acc ++ [x]) (by simp [hl]) hn (by simp; omega) (by simp at hf; omega)
      refine ⟨z, ?_⟩
      have h3 : ((pre.length : Int) != (i : Int)) = true := by simp; omega
      have h4 : lim (acc.length + [x].length) = true := by simp [lim]; omega
      rw [h3, cond_true, h4, cond_true, hz]
      by_cases hi : i < pre.length
      · rw [if_pos (by simp; omega), if_pos hi]; simp
      · have e : i - pre.length = (i - (pre ++ [x]).length) + 1 := by simp; omega
        rw [if_neg (by simp; omega), if_neg hi, e, List.eraseIdx_cons_succ]; simp
theorem without_eq (l : List Str) (i : Nat) (hn : l.length ≤ 100000) : switchboardref08_Without l (i : Int) = some (l.eraseIdx i) := by
  obtain ⟨z, hz⟩ := without_l1 l i l [] FUEL [] rfl hn (by simp) (by simp [FUEL]; omega)
  unfold switchboardref08_Without
  have e : ((([] : List Str).length : Nat) : Int) = 0 := rfl
  rw [e] at hz
  rw [hz]
  simp

theorem told1 (f : LinkFrame) (q : Int) : link_Told_1 f q = some (f.Seq == q) := rfl
theorem index_l1 (q : Int) : ∀ (xs : List LinkFrame) (k : Nat), slices_IndexFunc_link_Frame_link_Told_1_l1 q xs k = some (match xs.findIdx? (fun f => f.Seq == q) with | some j => .ret ((j + k : Nat) : Int) | none => .out ())
  | [], k => by simp [slices_IndexFunc_link_Frame_link_Told_1_l1]
  | x :: xs, k => by
    rw [slices_IndexFunc_link_Frame_link_Told_1_l1, told1]
    simp only [Option.bind_some]
    cases h : x.Seq == q with
    | true => simp [List.findIdx?_cons, h]
    | false =>
      rw [cond_false, index_l1 q xs (k + 1)]
      simp only [List.findIdx?_cons, h]
      cases xs.findIdx? (fun f => f.Seq == q) <;> simp <;> omega
theorem delete_l1 (q : Int) : ∀ (fuel : Nat) (v : List LinkFrame) (i j : Nat), i ≤ j → j ≤ v.length → v.length ≤ 100000 → v.length - j < fuel →
    ∃ (v' : List LinkFrame) (i' : Nat) (z : Int), slices_DeleteFunc_link_Frame_link_Told_1_l1 q fuel v i j = some (v', (i' : Int), z) ∧ v'.length = v.length ∧ i' ≤ v'.length ∧ v'.take i' = v.take i ++ (v.drop j).filter (fun f => !(f.Seq == q))
  | 0, v, i, j, _, _, _, h => by omega
  | fuel + 1, v, i, j, hij, hj, hn, hf => by
    rw [slices_DeleteFunc_link_Frame_link_Told_1_l1]
    by_cases he : j = v.length
    · have h1 : decide ((j : Int) < (v.length : Int)) = false := by simp; omega
      rw [h1, cond_false]
      refine ⟨v, i, _, rfl, rfl, by omega, ?_⟩
      rw [he]; simp
    · have hlt : j < v.length := by omega
      have h1 : decide ((j : Int) < (v.length : Int)) = true := by simp; omega
      have h2 : inb (j : Int) v.length = true := by simp [inb]; omega
      have h3 : inb (i : Int) v.length = true := by simp [inb]; omega
      have hx : at0 v (j : Int) = v[j] := by simp [at0, List.getD, hlt]
      have hw : i64w ((j : Int) + 1) = ((j + 1 : Nat) : Int) := by rw [i64w_id (by omega) (by omega)]; simp
      have hwi : i64w ((i : Int) + 1) = ((i + 1 : Nat) : Int) := by rw [i64w_id (by omega) (by omega)]; simp
      rw [h1, cond_true, h2, cond_true, told1]
      simp only [Option.bind_some, hx, hw, hwi, h3, cond_true, Int.toNat_natCast]
      have hd : v.drop j = v[j] :: v.drop (j + 1) := List.drop_eq_getElem_cons hlt
      cases hq : v[j].Seq == q with
      | true =>
        simp only [Bool.not_true, cond_false]
        obtain ⟨v', i', z, e1, e2, e3, e4⟩ := delete_l1 q fuel v i (j + 1) (by omega) (by omega) hn (by omega)
        refine ⟨v', i', z, e1, e2, e3, ?_⟩
        rw [e4, hd, List.filter_cons, hq]; simp
      | false =>
        simp only [Bool.not_false, cond_true]
        obtain ⟨v', i', z, e1, e2, e3, e4⟩ := delete_l1 q fuel (v.set i v[j]) (i + 1) (j + 1) (by omega) (by simp; omega) (by simpa using hn) (by simp; omega)
        refine ⟨v', i', z, e1, by simpa using e2, e3, ?_⟩
        rw [e4, hd, List.filter_cons, hq]
        simp only [Bool.not_false, if_true]
        have ht : (v.set i v[j]).take (i + 1) = v.take i ++ [v[j]] := by
          rw [List.take_succ_eq_append_getElem (by simp; omega)]
          simp [List.take_set]
          rw [List.set_eq_of_length_le (by simp; omega)]
        have hdr : (v.set i v[j]).drop (j + 1) = v.drop (j + 1) := by rw [List.drop_set, if_pos (by omega)]
        rw [ht, hdr]; simp
theorem delete_eq (xs : List LinkFrame) (q : Int) (hn : xs.length ≤ 100000) : slices_DeleteFunc_link_Frame_link_Told_1 xs q = some (xs.filter (fun f => !(f.Seq == q))) := by
  unfold slices_DeleteFunc_link_Frame_link_Told_1 slices_IndexFunc_link_Frame_link_Told_1
  rw [index_l1]
  simp only [Option.bind_some]
  cases hk : xs.findIdx? (fun f => f.Seq == q) with
  | none =>
    have hall : xs.filter (fun f => !(f.Seq == q)) = xs := by
      rw [List.filter_eq_self]
      intro f hf
      have := List.findIdx?_eq_none_iff.1 hk f hf
      simp [this]
    simp [hall]
  | some k =>
    obtain ⟨hk1, hk2, hk3⟩ := List.findIdx?_eq_some_iff_getElem.1 hk
    have hw : i64w ((k : Int) + 1) = ((k + 1 : Nat) : Int) := by rw [i64w_id (by omega) (by omega)]; simp
    have hne : (((k : Nat) : Int) == -1) = false := by simp
    obtain ⟨v', i', z, e1, e2, e3, e4⟩ := delete_l1 q FUEL xs k (k + 1) (by omega) (by omega) hn (by unfold FUEL; omega)
    simp only [Option.bind_some, Nat.add_zero, hne, cond_false, hw, e1]
    have hok : cutOk (i' : Int) (v'.length : Int) v'.length = true := by simp [cutOk]; omega
    rw [hok, cond_true]
    have hl : lcut v' 0 (i' : Int) = v'.take i' := by simp [lcut]
    rw [hl, e4]
    congr 1
    conv => rhs; rw [← List.take_append_drop (k + 1) xs]
    rw [List.filter_append]
    congr 1
    rw [List.take_succ_eq_append_getElem hk1, List.filter_append]
    have h1 : (xs.take k).filter (fun f => !(f.Seq == q)) = xs.take k := by
      rw [List.filter_eq_self]
      intro f hf
      obtain ⟨j, hj⟩ := List.getElem?_of_mem hf
      rw [List.getElem?_take] at hj
      split at hj
      · next hjk =>
        have := hk3 j hjk
        rw [List.getElem?_eq_getElem (by omega)] at hj
        injection hj with hj
        rw [← hj]; simpa using this
      · cases hj
    rw [h1]
    simp only [List.filter_cons, hk2]; simp
theorem told_eq (l : LinkLink) (q : Int) (hn : l.Queue.length ≤ 100000) : link_Told l q = some ⟨l.Next, l.Queue.filter (fun f => !(f.Seq == q))⟩ := by
  unfold link_Told slices_Clone_link_Frame cloneM
  have : lim l.Queue.length = true := by simp [lim]; omega
  rw [this, cond_true]
  simp [delete_eq _ _ hn]
end Go.Sw.PO

/- The plain law: a message's frame is taken as that message. -/
import Derived.Test.YtahaedoeckgidaaGreatPlH
set_option linter.unusedVariables false
set_option linter.unusedSimpArgs false
namespace Go.Sw.FL
theorem u8w_eq (x : Int) : u8w x = x % 256 := by show (IntKind.u8.wrap x) = _; simp [IntKind.wrap, IntKind.signed, IntKind.bits]
theorem u32w_eq (x : Int) : u32w x = x % 4294967296 := by show (IntKind.u32.wrap x) = _; simp [IntKind.wrap, IntKind.signed, IntKind.bits]
theorem i32w_eq (x : Int) : i32w x = if x % 4294967296 ≥ 2147483648 then x % 4294967296 - 4294967296 else x % 4294967296 := by show (IntKind.i32.wrap x) = _; simp [IntKind.wrap, IntKind.signed, IntKind.bits]
theorem bits_or (x b : Int) (hx : 0 ≤ x) (hx2 : x < 16777216) (hb : 0 ≤ b) (hb2 : b < 256) : ibits .or .i64 (i64w (x * 2 ^ Int.toNat 8)) (i64w b) = x * 256 + b := by
 obtain ⟨a, rfl⟩ := Int.eq_ofNat_of_zero_le hx
 obtain ⟨c, rfl⟩ := Int.eq_ofNat_of_zero_le hb
 have e8 : (2 : Int) ^ Int.toNat 8 = 256 := by decide
 rw [e8, i64w_eq (by omega) (by omega), i64w_eq (by omega) (by omega)]
 have e1 : ((a : Int) * 256) = ((a * 256 : Nat) : Int) := by simp
 rw [e1]
 show i64w ((BitVec.ofInt 64 ((a * 256 : Nat) : Int) ||| BitVec.ofInt 64 (c : Int)).toNat : Int) = _
 have h := Nat.shiftLeft_add_eq_or_of_lt (b := c) (i := 8) (by omega) a
 rw [Nat.shiftLeft_eq] at h
 have e2 : a * 2 ^ 8 = a * 256 := by rfl
 rw [e2] at h
 rw [BitVec.ofInt_natCast, BitVec.ofInt_natCast, BitVec.toNat_or, BitVec.toNat_ofNat, BitVec.toNat_ofNat, Nat.mod_eq_of_lt (by omega), Nat.mod_eq_of_lt (by omega), ← h, i64w_eq (by omega) (by omega)]
 simp
theorem four_sum (n : Int) : ((((0 * 256 + n / 16777216 % 256) * 256 + n / 65536 % 256) * 256 + n / 256 % 256) * 256 + n % 256) = n % 4294967296 := by
 have h1 : n / 65536 = n / 256 / 256 := by omega
 have h2 : n / 16777216 = n / 256 / 256 / 256 := by omega
 have h3 : n / 4294967296 = n / 256 / 256 / 256 / 256 := by omega
 rw [h1, h2, Int.emod_def n 4294967296, h3]
 omega
/-- Four bytes. -/
def F4 (n : Int) : Str := bstr [u8w n, u8w (Int.fdiv n (2 ^ Int.toNat 8)), u8w (Int.fdiv n (2 ^ Int.toNat 16)), u8w (Int.fdiv n (2 ^ Int.toNat 24))]
theorem four_eq (n : Int) : wire_four n = some (F4 n) := rfl
theorem F4_len (n : Int) : (F4 n).length = 4 := rfl
def encL : List Int → Str
 | [] => []
 | n :: l => F4 n ++ encL l
theorem encL_len : ∀ (l : List Int), (encL l).length = 4 * l.length
 | [] => rfl
 | n :: l => by rw [encL, List.length_append, F4_len, encL_len l]; simp; omega
theorem encL_app : ∀ (a b : List Int), encL (a ++ b) = encL a ++ encL b
 | [], b => rfl
 | n :: a, b => by rw [List.cons_append, encL, encL, encL_app a b, List.append_assoc]
theorem F4_at (n : Int) : chr (F4 n) 0 = n % 256 ∧ chr (F4 n) 1 = n / 256 % 256 ∧ chr (F4 n) 2 = n / 65536 % 256 ∧ chr (F4 n) 3 = n / 16777216 % 256 := by
 have e8 : (2 : Int) ^ Int.toNat 8 = 256 := by decide
 have e16 : (2 : Int) ^ Int.toNat 16 = 65536 := by decide
 have e24 : (2 : Int) ^ Int.toNat 24 = 16777216 := by decide
 have key : ∀ x : Int, (((UInt8.ofNat (u8w x).toNat).toNat : Nat) : Int) = x % 256 := fun x => by
  rw [u8w_eq]
  have h1 : 0 ≤ x % 256 := by omega
  have h2 : x % 256 < 256 := by omega
  obtain ⟨k, hk⟩ := Int.eq_ofNat_of_zero_le h1
  rw [hk] at h2 ⊢
  simp
  omega
 unfold F4
 rw [e8, e16, e24, Int.fdiv_eq_ediv_of_nonneg _ (by omega), Int.fdiv_eq_ediv_of_nonneg _ (by omega), Int.fdiv_eq_ediv_of_nonneg _ (by omega)]
 exact ⟨key _, key _, key _, key _⟩
theorem chr_mid (a b c : Str) (k : Nat) (hk : k < b.length) : chr (a ++ (b ++ c)) ((a.length + k : Nat) : Int) = chr b (k : Int) := by
 unfold chr
 rw [at0_nat (by simp; omega), at0_nat hk]
 rw [List.getElem_append_right (by omega), List.getElem_append_left (by omega)]
 simp
def md (n : Int) : Int := n % 4294967296
theorem number_eq (L : List Int) (i : Nat) (hi : i < L.length) (hl : L.length ≤ 100000) : wire_number (encL L) (i : Int) = some (md L[i]) := by
 have hs : encL L = encL (L.take i) ++ (F4 L[i] ++ encL (L.drop (i + 1))) := by
  conv => lhs; rw [← List.take_append_drop i L, encL_app, List.drop_eq_getElem_cons hi, encL]
 have hlen : (encL (L.take i)).length = 4 * i := by rw [encL_len]; simp; omega
 have htot := encL_len L
 have hc : ∀ k : Nat, k < 4 → chr (encL L) ((4 * i + k : Nat) : Int) = chr (F4 L[i]) (k : Int) := fun k hk => by
  have := chr_mid (encL (L.take i)) (F4 L[i]) (encL (L.drop (i + 1))) k (by rw [F4_len]; omega)
  rw [← hs, hlen] at this; exact this
 obtain ⟨f0, f1, f2, f3⟩ := F4_at L[i]
 have step : ∀ (fuel : Nat) (v : Int) (k : Nat) (b : Int), k < 4 → 0 ≤ v → v < 16777216 → chr (F4 L[i]) (k : Int) = b → 0 ≤ b → b < 256 →
   wire_number_l1 (encL L) (i : Int) (fuel + 1) v (k : Int) = wire_number_l1 (encL L) (i : Int) fuel (v * 256 + b) ((k : Int) - 1) := fun fuel v k b hk h0 h1 hb hb0 hb1 => by
  rw [wire_number_l1]
  have e4 : i64w ((i64w (4 * (i : Int))) + (k : Int)) = ((4 * i + k : Nat) : Int) := by
   rw [i64w_eq (x := 4 * (i : Int)) (by omega) (by omega), i64w_eq (by omega) (by omega)]; simp
  rw [e4]
  refine bif_t (by omega) (cb_t (inb_nat (by omega)) ?_)
  rw [hc k hk, hb, bits_or v b h0 h1 hb0 hb1, i64w_eq (x := (k : Int) - 1) (by omega) (by omega)]
 unfold wire_number
 have hF : FUEL = 999995 + 1 + 1 + 1 + 1 + 1 := rfl
 have s3 := step (999995 + 1 + 1 + 1 + 1) 0 3 _ (by omega) (by omega) (by omega) f3 (by omega) (by omega)
 have s2 := step (999995 + 1 + 1 + 1) (0 * 256 + L[i] / 16777216 % 256) 2 _ (by omega) (by omega) (by omega) f2 (by omega) (by omega)
 have s1 := step (999995 + 1 + 1) ((0 * 256 + L[i] / 16777216 % 256) * 256 + L[i] / 65536 % 256) 1 _ (by omega) (by omega) (by omega) f1 (by omega) (by omega)
 have s0 := step (999995 + 1) (((0 * 256 + L[i] / 16777216 % 256) * 256 + L[i] / 65536 % 256) * 256 + L[i] / 256 % 256) 0 _ (by omega) (by omega) (by omega) f0 (by omega) (by omega)
 have c3 : ((3 : Nat) : Int) = 3 := rfl
 have c2 : ((3 : Nat) : Int) - 1 = ((2 : Nat) : Int) := rfl
 have c1 : ((2 : Nat) : Int) - 1 = ((1 : Nat) : Int) := rfl
 have c0 : ((1 : Nat) : Int) - 1 = ((0 : Nat) : Int) := rfl
 rw [hF, ← c3, s3, c2, s2, c1, s1, c0, s0, wire_number_l1]
 refine bd_s (bif_f (by decide) rfl) ?_
 show some _ = some _
 exact congrArg some (four_sum _)
theorem signed_eq (n : Int) (h0 : -2147483648 ≤ n) (h1 : n ≤ 2147483647) : wire_signed (md n) = some n := by
 unfold wire_signed md
 rw [i32w_eq]
 have : (if n % 4294967296 % 4294967296 ≥ 2147483648 then n % 4294967296 % 4294967296 - 4294967296 else n % 4294967296 % 4294967296) = n := by split <;> omega
 rw [this, i64w_eq (by omega) (by omega)]
theorem sum_l2 : ∀ (k i : Nat) (v : Int), ∃ c, crc_Sum_l2 k i v = some c
 | 0, i, v => ⟨v, rfl⟩
 | k + 1, i, v => by rw [crc_Sum_l2]; exact sum_l2 k _ _
theorem sum_l1 : ∀ (l : List Int) (i : Nat) (v : Int), ∃ c, crc_Sum_l1 l i v = some c
 | [], i, v => ⟨v, rfl⟩
 | x :: l, i, v => by
  obtain ⟨c, hc⟩ := sum_l2 (Int.toNat 8) 0 (ibits .xor .u32 v (u32w x))
  obtain ⟨d, hd⟩ := sum_l1 l (i + 1) c
  exact ⟨d, by rw [crc_Sum_l1]; exact cb_t rfl (bd_s hc hd)⟩
theorem sum_eq (s : Str) (h : s.length ≤ 100000) : ∃ c, crc_Sum s = some c ∧ 0 ≤ c ∧ c < 4294967296 := by
 obtain ⟨d, hd⟩ := sum_l1 (bytesI s) 0 4294967295
 refine ⟨_, by unfold crc_Sum; exact cb_t (lim_t (by omega)) (bd_s hd rfl), ?_⟩
 have h1 : ibits .xor .u32 d 4294967295 = ((BitVec.ofInt 32 d ^^^ BitVec.ofInt 32 4294967295).toNat : Int) % 4294967296 := by
  show u32w _ = _
  rw [u32w_eq]; rfl
 rw [h1, i64w_eq (by omega) (by omega)]; omega
def sumOf (s : Str) : Int := (crc_Sum s).getD 0
theorem sumOf_eq {s : Str} (h : s.length ≤ 100000) : crc_Sum s = some (sumOf s) ∧ 0 ≤ sumOf s ∧ sumOf s < 4294967296 := by
 obtain ⟨c, h1, h2⟩ := sum_eq s h
 have : sumOf s = c := by unfold sumOf; rw [h1]; rfl
 rw [this]; exact ⟨h1, h2⟩
/-! ### messages -/
def nums (m : ApiMsg) : List Int := [m.Kind, m.From, m.To, m.Seq, m.Batch, m.Layer, m.Token, m.Rank, m.Expert, m.Epoch, (m.Vec.length : Int)] ++ m.Vec
def ten (m : ApiMsg) : List Int := [m.Kind, m.From, m.To, m.Seq, m.Batch, m.Layer, m.Token, m.Rank, m.Expert, m.Epoch]
def okMsg (m : ApiMsg) : Prop := (∀ n ∈ ten m, 0 ≤ n ∧ n ≤ 2147483647) ∧ (∀ n ∈ m.Vec, -2147483648 ≤ n ∧ n ≤ 2147483647) ∧ (1 ≤ m.Kind ∧ m.Kind ≤ 4) ∧ m.Vec.length ≤ 8
theorem wright_l1 : ∀ (l : List Int) (i : Nat), (∀ n ∈ l, 0 ≤ n ∧ n ≤ 2147483647) → wire_Right_l1 l i = some (.out ())
 | [], i, _ => rfl
 | x :: l, i, h => by
  have := h x (by simp)
  rw [wire_Right_l1]
  refine cb_f (by simp; omega) (wright_l1 l _ fun n hn => h n (by simp [hn]))
theorem wright_l2 : ∀ (l : List Int) (i : Nat), (∀ n ∈ l, -2147483648 ≤ n ∧ n ≤ 2147483647) → wire_Right_l2 l i = some (.out ())
 | [], i, _ => rfl
 | x :: l, i, h => by
  have := h x (by simp)
  rw [wire_Right_l2]
  refine cb_f (by simp; omega) (wright_l2 l _ fun n hn => h n (by simp [hn]))
theorem wright_eq {m : ApiMsg} (h : okMsg m) : wire_Right m = some true := by
 unfold wire_Right
 refine bd_s rfl (bd_s (wright_l1 _ 0 h.1) (bd_s (wright_l2 _ 0 h.2.1) ?_))
 have := h.2.2
 have e : (((decide (1 ≤ m.Kind)) && (decide (m.Kind ≤ 4))) && (decide ((m.Vec.length : Int) ≤ 8))) = true := by
  simp only [Bool.and_eq_true, decide_eq_true_eq]; exact ⟨this.1, by omega⟩
 rw [e]
theorem put_l1 : ∀ (l : List Int) (i : Nat) (s : Str), s.length + 4 * l.length ≤ 100000 → wire_Put_l1 l i s = some (s ++ encL l)
 | [], i, s, _ => by simp [wire_Put_l1, encL]
 | n :: l, i, s, h => by
  rw [wire_Put_l1, four_eq]
  simp only [Option.bind_some]
  have := F4_len n
  refine cb_t (lim_t (by simp at h; omega)) ?_
  rw [put_l1 l (i + 1) _ (by simp at h ⊢; omega), encL, List.append_assoc]
def body (m : ApiMsg) : Str := encL (nums m)
def allN (m : ApiMsg) : List Int := (4 * ((nums m).length + 1) : Nat) :: (nums m ++ [sumOf (body m)])
def putS (m : ApiMsg) : Str := encL (allN m)
def pre (m : ApiMsg) : List Int := ((4 * ((nums m).length + 1) : Nat) : Int) :: nums m
theorem nums_len (m : ApiMsg) : (nums m).length = 11 + m.Vec.length := by simp [nums]; omega
theorem put_eq {m : ApiMsg} (h : okMsg m) : wire_Put m = some (putS m, 0) := by
 have h8 := h.2.2.2
 have hb : (body m).length = 4 * (11 + m.Vec.length) := by rw [body, encL_len, nums_len]
 have hl : (nums m).length = 11 + m.Vec.length := nums_len m
 obtain ⟨hs, _, _⟩ := sumOf_eq (s := body m) (by omega)
 unfold wire_Put
 refine bd_s (wright_eq h) (cb_f rfl (bd_s (x := ten m) rfl (cb_t (lim_t (by simp [ten])) (cb_t (lim_t (by simp [ten]; omega)) ?_))))
 have e : (ten m ++ [(m.Vec.length : Int)]) ++ m.Vec = nums m := rfl
 rw [e]
 refine bd_s (put_l1 (nums m) 0 [] (by simp; omega)) ?_
 rw [List.nil_append]
 have eb : encL (nums m) = body m := rfl
 rw [eb]
 refine bd_s hs (bd_s (four_eq _) (cb_t (lim_t (by rw [F4_len]; omega)) (bd_s (four_eq _) (cb_t (lim_t (by simp only [List.length_append, F4_len]; omega)) ?_))))
 congr 2
 rw [putS, allN, encL, encL_app, eb]
 have e2 : encL [sumOf (body m)] = F4 (sumOf (body m)) := by rw [encL, encL, List.append_nil]
 have e3 : ((body m ++ F4 (sumOf (body m))).length : Int) = ((4 * ((nums m).length + 1) : Nat) : Int) := by rw [List.length_append, F4_len, hb, hl]; omega
 rw [e2, e3]
theorem set_step (L : List Int) (i : Nat) (hi : i < L.length) (v : List Int) (hv : v.take i = (L.take i).map md) (hl : v.length = L.length) (x : Int) (hx : x = md L[i]) : (v.set i x).take (i + 1) = (L.take (i + 1)).map md := by
 subst hx
 rw [List.take_succ_eq_append_getElem (by simp; omega), List.take_succ_eq_append_getElem hi, List.map_append, ← hv, List.take_set, List.set_eq_of_length_le (by simp; omega)]
 simp
theorem take_l1 (L X : List Int) (hL : L.length ≤ 1000) (hX : (L ++ X).length ≤ 100000) : ∀ (k i : Nat) (v : List Int), i + k = L.length → v.length = L.length → v.take i = (L.take i).map md → wire_Take_l1 (encL (L ++ X)) k i v = some (L.map md)
 | 0, i, v, h, hv, ht => by
  rw [wire_Take_l1]
  rw [show i = L.length from by omega, List.take_length, ← hv, List.take_length] at ht
  rw [ht]
 | k + 1, i, v, h, hv, ht => by
  have hi : i < L.length := by omega
  have hiX : i < (L ++ X).length := by simp; omega
  rw [wire_Take_l1]
  refine bd_s (number_eq (L ++ X) i hiX hX) (cb_t (inb_nat (by omega)) ?_)
  have e : (L ++ X)[i] = L[i] := List.getElem_append_left hi
  have ei : Int.toNat (i : Int) = i := by simp
  rw [e, ei]
  exact take_l1 L X hL hX k (i + 1) _ (by omega) (by simp; omega) (set_step L i hi v ht hv _ rfl)
theorem take_l2 : ∀ (l : List Int) (i : Nat) (acc : List Int), (∀ n ∈ l, -2147483648 ≤ n ∧ n ≤ 2147483647) → acc.length + l.length ≤ 100000 → wire_Take_l2 (l.map md) i acc = some (acc ++ l)
 | [], i, acc, _, _ => by simp [wire_Take_l2]
 | n :: l, i, acc, h, hl => by
  have hn := h n (by simp)
  rw [List.map_cons, wire_Take_l2]
  refine bd_s (signed_eq n hn.1 hn.2) (cb_t (lim_t (by simp at hl ⊢; omega)) ?_)
  rw [take_l2 l (i + 1) _ (fun x hx => h x (by simp [hx])) (by simp at hl ⊢; omega)]
  simp
theorem md_id {n : Int} (h0 : 0 ≤ n) (h1 : n < 4294967296) : md n = n := by unfold md; omega
theorem take_eq {m : ApiMsg} (h : okMsg m) : wire_Take (putS m) = some (m, 0) := by
 have h8 := h.2.2.2
 have hl : (nums m).length = 11 + m.Vec.length := nums_len m
 have hb : (body m).length = 4 * (11 + m.Vec.length) := by rw [body, encL_len, nums_len]
 obtain ⟨hs, hs0, hs1⟩ := sumOf_eq (s := body m) (by omega)
 have hal : (allN m).length = 13 + m.Vec.length := by simp [allN, hl]; omega
 have hp : (putS m).length = 4 * (13 + m.Vec.length) := by rw [putS, encL_len, hal]
 have g0 : wire_number (putS m) 0 = some ((4 * (12 + m.Vec.length) : Nat) : Int) := by
  have := number_eq (allN m) 0 (by omega) (by omega)
  rw [putS]
  refine this.trans ?_
  have e : (allN m)[0]'(by omega) = ((4 * ((nums m).length + 1) : Nat) : Int) := rfl
  rw [e, hl, md_id (by omega) (by omega)]
  congr 2; omega
 have many : i64w ((i64w (Int.tdiv ((putS m).length : Int) 4)) - 1) = ((12 + m.Vec.length : Nat) : Int) := by
  rw [hp]
  have e : Int.tdiv ((4 * (13 + m.Vec.length) : Nat) : Int) 4 = ((13 + m.Vec.length : Nat) : Int) := by
   rw [Int.tdiv_eq_ediv_of_nonneg (by omega)]; omega
  rw [e, i64w_eq (x := ((13 + m.Vec.length : Nat) : Int)) (by omega) (by omega), i64w_eq (by omega) (by omega)]; omega
 have g1 : wire_number (putS m) ((12 + m.Vec.length : Nat) : Int) = some (sumOf (body m)) := by
  have := number_eq (allN m) (12 + m.Vec.length) (by omega) (by omega)
  rw [putS]
  refine this.trans ?_
  have e : (allN m)[12 + m.Vec.length]'(by omega) = sumOf (body m) := by
   have hx : 12 + m.Vec.length = (nums m).length + 1 := by omega
   have : (allN m)[12 + m.Vec.length]? = some (sumOf (body m)) := by
    rw [hx, allN, List.getElem?_cons_succ]; simp
   rw [List.getElem?_eq_getElem (by omega)] at this
   exact Option.some.inj this
  rw [e, md_id hs0 hs1]
 have four : i64w (4 * ((12 + m.Vec.length : Nat) : Int)) = ((4 * (12 + m.Vec.length) : Nat) : Int) := by rw [i64w_eq (by omega) (by omega)]; omega
 have hcut : cut (putS m) 4 ((4 * (12 + m.Vec.length) : Nat) : Int) = body m := by
  have hsp : putS m = F4 ((4 * ((nums m).length + 1) : Nat) : Int) ++ (body m ++ encL [sumOf (body m)]) := by
   rw [putS, allN, encL, encL_app]; rfl
  unfold cut
  rw [hsp]
  have e4 : Int.toNat 4 = (F4 ((4 * ((nums m).length + 1) : Nat) : Int)).length := rfl
  have e5 : Int.toNat ((4 * (12 + m.Vec.length) : Nat) : Int) - Int.toNat 4 = (body m).length := by rw [hb]; simp; omega
  rw [e5, e4, List.drop_left, List.take_left]
 have hL : (pre m).length = 12 + m.Vec.length := by simp [pre, hl]; omega
 have hsplit : allN m = (pre m) ++ [sumOf (body m)] := rfl
 unfold wire_Take
 rw [many, four]
 refine bif_f (by rw [hp]; omega) (bd_s g0 (cb_f ?_ (cb_f ?_ (cb_t ?_ (bd_s g1 ?_)))))
 ·rw [hp, i64w_eq (by omega) (by omega)]; simp; omega
 ·rw [hp]
  have e : Int.tmod ((4 * (13 + m.Vec.length) : Nat) : Int) 4 = 0 := by
   rw [Int.tmod_eq_emod_of_nonneg (by omega)]; omega
  rw [e]; rfl
 ·rw [hp]; simp [cutOk]; omega
 rw [hcut]
 refine bd_s hs (cb_f (by simp) (cb_t ?_ (cb_t (by simp [limI]; omega) ?_)))
 ·simp [mkOk]; omega
 have hrep : (List.replicate (Int.toNat ((12 + m.Vec.length : Nat) : Int)) (0 : Int)).length = 12 + m.Vec.length := by simp; omega
 have ht := take_l1 (pre m) [sumOf (body m)] (by omega) (by rw [← hsplit]; omega) (12 + m.Vec.length) 0 (List.replicate (Int.toNat ((12 + m.Vec.length : Nat) : Int)) (0 : Int)) (by omega) (by rw [hrep, hL]) rfl
 rw [← hsplit] at ht
 have et : Int.toNat ((List.replicate (Int.toNat ((12 + m.Vec.length : Nat) : Int)) (0 : Int)).length : Int) = 12 + m.Vec.length := by rw [hrep]; simp; omega
 rw [et]
 refine bd_s ht ?_
 have hmap : (pre m).map md = md ((4 * ((nums m).length + 1) : Nat) : Int) :: m.Kind :: m.From :: m.To :: m.Seq :: m.Batch :: m.Layer :: m.Token :: m.Rank :: m.Expert :: m.Epoch :: (m.Vec.length : Int) :: m.Vec.map md := by
  have hm : ∀ n ∈ ten m, md n = n := fun n hn => md_id (h.1 n hn).1 (by have := (h.1 n hn).2; omega)
  simp only [ten, List.mem_cons, List.not_mem_nil, or_false, forall_eq_or_imp, forall_eq] at hm
  obtain ⟨a1, a2, a3, a4, a5, a6, a7, a8, a9, a10⟩ := hm
  have a11 : md (m.Vec.length : Int) = m.Vec.length := md_id (by omega) (by omega)
  simp only [pre, nums, List.map_cons, List.map_append, List.cons_append, List.nil_append, List.map_nil, a1, a2, a3, a4, a5, a6, a7, a8, a9, a10, a11]
 rw [hmap]
 generalize md ((4 * ((nums m).length + 1) : Nat) : Int) = x0
 have hin : ∀ k : Nat, k < 12 → inb (k : Int) (x0 :: m.Kind :: m.From :: m.To :: m.Seq :: m.Batch :: m.Layer :: m.Token :: m.Rank :: m.Expert :: m.Epoch :: (m.Vec.length : Int) :: m.Vec.map md).length = true := fun k hk => inb_nat (by simp; omega)
 refine cb_t (hin 1 (by omega)) (cb_t (hin 2 (by omega)) (cb_t (hin 3 (by omega)) (cb_t (hin 4 (by omega)) (cb_t (hin 5 (by omega)) (cb_t (hin 6 (by omega)) (cb_t (hin 7 (by omega)) (cb_t (hin 8 (by omega)) (cb_t (hin 9 (by omega)) (cb_t (hin 10 (by omega)) (cb_t ?_ ?_))))))))))
 ·simp [cutOk]; omega
 have hlc : lcut (x0 :: m.Kind :: m.From :: m.To :: m.Seq :: m.Batch :: m.Layer :: m.Token :: m.Rank :: m.Expert :: m.Epoch :: (m.Vec.length : Int) :: m.Vec.map md) 12 ((x0 :: m.Kind :: m.From :: m.To :: m.Seq :: m.Batch :: m.Layer :: m.Token :: m.Rank :: m.Expert :: m.Epoch :: (m.Vec.length : Int) :: m.Vec.map md).length : Int) = m.Vec.map md := by
  unfold lcut
  rw [Int.toNat_natCast, List.take_length]; rfl
 rw [hlc]
 refine bd_s (take_l2 m.Vec 0 [] h.2.1 (by simp; omega)) (cb_t (hin 11 (by omega)) (cb_f ?_ ?_))
 ·show ((m.Vec.length : Int) != _) = false
  simp
 refine bd_s (wright_eq (m := m) h) rfl
end Go.Sw.FL

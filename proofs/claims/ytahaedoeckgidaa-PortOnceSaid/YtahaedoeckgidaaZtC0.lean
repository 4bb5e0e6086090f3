/- The calls compute the mirrors. -/
import Derived.Test.YtahaedoeckgidaaZtF
set_option linter.unusedVariables false
set_option linter.unusedSimpArgs false
set_option maxRecDepth 100000
namespace Go.Sw
open Go.Proofs

theorem switchboardref08_Without_ok {w0 : World} {H0 : IHeap} (hS : Sub H0 w0) {p0 : List Str} {p1 : Int}  {A1_ : Option Addr} {c1_ : Nat} (h1_ : RS eStr H0 A1_ c1_ p0) {res : (List Str)} (hm0 : switchboardref08_Without p0 p1 = some res) :
    Ok Try.prog 11 [(.slice A1_ p0.length c1_), (.int .i64 p1)].toArray w0 H0 (fun H' v => ∃ (A1 : Option Addr) (c1 : Nat), v = (.slice A1 res.length c1) ∧ RS eStr H' A1 c1 res) := by
  unfold switchboardref08_Without at hm0
  refine ok_of_W Try.func11 rfl Try.ntmps11 (ts := [4]) rfl rfl rfl ?_
  have hO := St.start hS
  refine W.seq ?_
  refine W.region ?_
  refine WL.val (x_assign (.slice none 0 0) rfl) ?_
  refine WL.nil ?_
  refine W.seq ?_
  refine W.region ?_
  refine WL.val (x_assign (.slice none 0 0) rfl) ?_
  refine WL.nil ?_
  refine W.seq ?_
  refine W.seq ?_
  refine W.region ?_
  refine WL.val (x_assign (.int .i64 0) rfl) ?_
  refine WL.nil ?_
  have hO := hO.nilRowT (α := Str) 0 none 9 eStr
  obtain ⟨o1, hm1, hm0⟩ := bindSome hm0
  have hO := hO.pick [(0, .row none 0 9 eStr.size ([] : List Str).length [])] ⟨rfl, trivial⟩
  refine W.blockLoop (fun r w => ∃ (v7 : List Str) (A8 : Option Addr) (c9 : Nat) (cs10 : List Value) (v12 : Int) (H2 : IHeap), (v7, v12) = o1 ∧ Le H0 H2 ∧ St w0 H0 [] H2 (ol [(0, .row A8 c9 9 eStr.size v7.length cs10)]) w ∧ r 5 = (.slice A8 v7.length c9) ∧ Rows eStr H2 cs10 v7) (fun k r w => ∃ (rest5 : Nat) (v7 : List Str) (A8 : Option Addr) (c9 : Nat) (cs10 : List Value) (v12 : Int) (H2 : IHeap), rest5 = k ∧ switchboardref08_Without_l1 p0 p1 rest5 v7 v12 = some o1 ∧ Le H0 H2 ∧ St w0 H0 [] H2 (ol [(0, .row A8 c9 9 eStr.size v7.length cs10)]) w ∧ r 0 = (.slice A1_ p0.length c1_) ∧ r 1 = (.int .i64 p1) ∧ r 5 = (.slice A8 v7.length c9) ∧ r 6 = (.int .i64 v12) ∧ Rows eStr H2 cs10 v7) FUEL ?_ ?_ ?_
  · exact ⟨_, ([] : List Str), none, 0, [], 0, _, rfl, hm1, Le.refl _, hO, rfl, rfl, rfl, rfl, Rows.nil⟩
  ·
    intro k r w
    rintro ⟨rest5, v7, A8, c9, cs10, v12, H2, rfl, hm1, le3, hO, f0_1, f1_1, f5_1, f6_1, h11⟩
    cases rest5 with
    | zero => rw [switchboardref08_Without_l1] at hm1; cases hm1
    | succ rest5 =>
      rw [switchboardref08_Without_l1] at hm1
      refine W.seq ?_
      refine W.seq ?_
      refine W.region ?_
      refine WL.val (x_move (.int .i64 v12) f6_1) ?_
      refine WL.val (x_move (.slice A1_ p0.length c1_) f0_1) ?_
      refine WL.val (x_len rfl Try.underlying31) ?_
      refine WL.val (x_lss rfl rfl) ?_
      refine WL.nil ?_
      refine W.test rfl hm1 ?_ ?_
      · intro hb13 hm1
        refine W.skip ?_
        refine W.seq ?_
        refine W.block ?_
        refine W.seq ?_
        refine W.region ?_
        refine WL.val (x_move (.int .i64 v12) f6_1) ?_
        refine WL.val (x_move (.int .i64 p1) f1_1) ?_
        refine WL.val (x_neq rfl rfl) ?_
        refine WL.nil ?_
        refine W.test rfl hm1 ?_ ?_
        · intro hb14 hm1
          refine W.region ?_
          refine WL.val (x_move (.slice A8 v7.length c9) f5_1) ?_
          refine WL.val (x_move (.slice A1_ p0.length c1_) f0_1) ?_
          refine WL.val (x_move (.int .i64 v12) f6_1) ?_
          obtain ⟨hin18, hm1⟩ := chk hm1
          obtain ⟨a15, h16, hA17⟩ := RS.at_ (h1_.up le3) hin18
          refine WL.val (x_ia (sA rfl hA17) rfl sle31 hin18) ?_
          refine WL.val (x_ldc rfl (h16.str _ hO.sub) one9) ?_
          refine o_litT (en := eStr) 1 [(vs (at0 p0 v12))] ([(at0 p0 v12)] : List Str) hO sli31 ⟨rfl, trivial⟩ rfl rfl rfl ?_
          intro g19 cs20 w21 hr22 hO
          refine o_appT (en := eStr) (xs := v7) (ys := ([(at0 p0 v12)] : List Str)) 0 hO rfl h11 rfl rfl (Src.row (k := 1) hO rfl) hr22 sli31 rfl rfl Try.underlying31 hm1 ?_
          intro A23 c24 cs25 w26 hr27 hO hm1
          refine WL.val (x_assign (.slice A23 (v7 ++ ([(at0 p0 v12)] : List Str)).length c24) rfl) ?_
          refine WL.nil ?_
          refine W.region ?_
          refine WL.val (x_move (.int .i64 v12) f6_1) ?_
          refine WL.val (x_add rfl rfl) ?_
          refine WL.val (x_assign (.int .i64 (i64w (v12 + 1))) rfl) ?_
          refine WL.nil ?_
          exact ⟨_, Nat.lt_succ_self _, rest5, (v7 ++ ([(at0 p0 v12)] : List Str)), A23, c24, cs25, i64w (v12 + 1), H2, rfl, hm1, le3, hO.pick _ ⟨rfl, trivial⟩, f0_1, f1_1, rfl, rfl, hr27⟩
        · intro hb14 hm1
          refine W.skip ?_
          refine W.region ?_
          refine WL.val (x_move (.int .i64 v12) f6_1) ?_
          refine WL.val (x_add rfl rfl) ?_
          refine WL.val (x_assign (.int .i64 (i64w (v12 + 1))) rfl) ?_
          refine WL.nil ?_
          exact ⟨_, Nat.lt_succ_self _, rest5, v7, A8, c9, cs10, i64w (v12 + 1), H2, rfl, hm1, le3, hO.pick _ ⟨rfl, trivial⟩, f0_1, f1_1, f5_1, rfl, h11⟩
      · intro hb13 hm1
        refine W.exit _ rfl ?_
        obtain rfl := Option.some.inj hm1
        exact ⟨v7, A8, c9, cs10, v12, H2, rfl, le3, hO.pick _ ⟨rfl, trivial⟩, f5_1, h11⟩
  · intro r w
    rintro ⟨v30, A31, c32, cs34, v35, H28, rfl, le29, hO, f37, h33⟩
    dsimp only at hm0
    refine W.seq ?_
    refine W.region ?_
    refine WL.val (x_move (.slice A31 v30.length c32) f37) ?_
    refine WL.val (x_assign (.slice A31 v30.length c32) rfl) ?_
    refine WL.nil ?_
    refine W.ret ?_
    obtain ⟨H38, le39, h40, hO⟩ := hO.freezeRow (en := eStr) 0 rfl rfl rfl h33
    obtain rfl := Option.some.inj hm0
    exact ⟨H38, ⟨A31, c32, rfl, h40⟩, hO.done⟩

theorem port_four_ok {w0 : World} {H0 : IHeap} (hS : Sub H0 w0) {p0 : Int}    {res : Str} (hm0 : port_four p0 = some res) :
    Ok Try.prog 18 [(.int .i64 p0)].toArray w0 H0 (fun H' v => v = (vs res)) := by
  unfold port_four at hm0
  refine ok_of_W Try.func18 rfl Try.ntmps18 (ts := [2]) rfl rfl rfl ?_
  have hO := St.start hS
  refine W.seq ?_
  refine W.region ?_
  refine WL.val (x_assign (vs ([] : Str)) rfl) ?_
  refine WL.nil ?_
  refine W.seq ?_
  refine W.region ?_
  refine WL.val (x_move (.int .i64 p0) rfl) ?_
  refine WL.val (x_conv Try.underlying3 Try.underlying5 rfl) ?_
  refine WL.val (x_move (.int .i64 p0) rfl) ?_
  refine WL.val (x_shr rfl rfl rfl) ?_
  refine WL.val (x_conv Try.underlying3 Try.underlying5 rfl) ?_
  refine WL.val (x_move (.int .i64 p0) rfl) ?_
  refine WL.val (x_shr rfl rfl rfl) ?_
  refine WL.val (x_conv Try.underlying3 Try.underlying5 rfl) ?_
  refine WL.val (x_move (.int .i64 p0) rfl) ?_
  refine WL.val (x_shr rfl rfl rfl) ?_
  refine WL.val (x_conv Try.underlying3 Try.underlying5 rfl) ?_
  refine o_litT (en := (eInt .u8)) 0 [(.int .u8 (u8w p0)), (.int .u8 (u8w (Int.fdiv p0 (2 ^ Int.toNat 8)))), (.int .u8 (u8w (Int.fdiv p0 (2 ^ Int.toNat 16)))), (.int .u8 (u8w (Int.fdiv p0 (2 ^ Int.toNat 24))))] ([u8w p0, u8w (Int.fdiv p0 (2 ^ Int.toNat 8)), u8w (Int.fdiv p0 (2 ^ Int.toNat 16)), u8w (Int.fdiv p0 (2 ^ Int.toNat 24))] : List Int) hO sli55 ⟨rfl, rfl, rfl, rfl, trivial⟩ rfl rfl rfl ?_
  intro g1 cs2 w3 hr4 hO
  refine WL.val (x_str Try.underlying55 Try.underlying5 Try.underlying9 rfl (Src.row (k := 0) hO rfl) hr4) ?_
  refine WL.val (x_assign (vs (bstr ([u8w p0, u8w (Int.fdiv p0 (2 ^ Int.toNat 8)), u8w (Int.fdiv p0 (2 ^ Int.toNat 16)), u8w (Int.fdiv p0 (2 ^ Int.toNat 24))] : List Int))) rfl) ?_
  refine WL.nil ?_
  refine W.ret ?_
  obtain rfl := Option.some.inj hm0
  exact ⟨H0, rfl, hO.done⟩

theorem crc_Sum_ok {w0 : World} {H0 : IHeap} (hS : Sub H0 w0) {p0 : Str}    {res : Int} (hm0 : crc_Sum p0 = some res) :
    Ok Try.prog 19 [(vs p0)].toArray w0 H0 (fun H' v => v = (.int .i64 res)) := by
  unfold crc_Sum at hm0
  refine ok_of_W Try.func19 rfl Try.ntmps19 (ts := [2]) rfl rfl rfl ?_
  have hO := St.start hS
  refine W.seq ?_
  refine W.region ?_
  refine WL.val (x_assign (.int .i64 0) rfl) ?_
  refine WL.nil ?_
  refine W.seq ?_
  refine W.region ?_
  refine WL.val (x_assign (.int .u32 4294967295) rfl) ?_
  refine WL.nil ?_
  refine W.seq ?_
  refine W.seq ?_
  refine W.region ?_
  refine WL.val (x_move (vs p0) rfl) ?_
  obtain ⟨hz1, hm0⟩ := chk hm0
  refine o_bytes hO Try.underlying9 Try.underlying55 Try.underlying5 rfl hz1 ?_
  intro A2 c3 H4 w5 le6 h7 hO
  refine WL.val (x_len rfl Try.underlying55) ?_
  refine WL.val (x_move (.int .i64 0) rfl) ?_
  refine WL.nil ?_
  obtain ⟨o8, hm1, hm0⟩ := bindSome hm0
  have hO := hO.pick [] trivial
  refine W.blockLoop (fun r w => ∃ (v14 : Int) (i11 : Nat) (H9 : IHeap), v14 = o8 ∧ Le H4 H9 ∧ St w0 H0 [] H9 (ol []) w ∧ r 3 = (.int .u32 v14)) (fun k r w => ∃ (i11 : Nat) (rest12 : List Int) (v14 : Int) (H9 : IHeap), k = rest12.length ∧ List.drop i11 (bytesI p0) = rest12 ∧ crc_Sum_l1 rest12 i11 v14 = some o8 ∧ Le H4 H9 ∧ St w0 H0 [] H9 (ol []) w ∧ r 3 = (.int .u32 v14) ∧ r 8 = (.slice A2 (bytesI p0).length c3) ∧ r 9 = (.int .i64 ((bytesI p0).length : Int)) ∧ r 10 = (.int .i64 (i11 : Int))) (List.length (bytesI p0)) ?_ ?_ ?_
  · exact ⟨0, _, 4294967295, _, rfl, rfl, hm1, Le.refl _, hO, rfl, rfl, rfl, rfl⟩
  ·
    intro k r w
    rintro ⟨i11, rest12, v14, H9, rfl, hd15, hm1, le10, hO, f3_1, f8_1, f9_1, f10_1⟩
    cases rest12 with
    | nil =>
      rw [crc_Sum_l1] at hm1
      have hlt := drop_nil hd15
      refine W.seq ?_
      refine W.region ?_
      refine WL.val (x_lss f10_1 f9_1) ?_
      refine WL.nil ?_
      refine W.seq ?_
      refine W.cond_f (kb rfl hlt) ?_
      refine W.exit _ rfl ?_
      obtain rfl := Option.some.inj hm1
      exact ⟨v14, i11, H9, rfl, le10, hO.pick _ trivial, f3_1⟩
    | cons x13 rest12 =>
      rw [crc_Sum_l1] at hm1
      have hlt := drop_lt hd15
      have hnx := drop_next hd15
      have hinc := inc_len hlt h7.1 h7.2.1
      refine W.seq ?_
      refine W.region ?_
      refine WL.val (x_lss f10_1 f9_1) ?_
      refine WL.nil ?_
      refine W.seq ?_
      refine W.cond_t (kb rfl hlt) ?_
      refine W.skip ?_
      refine W.seq ?_
      refine W.block ?_
      refine W.seq ?_
      refine W.region ?_
      obtain ⟨a16, h17, hA18, hin⟩ := RS.atR (h7.up le10) hd15
      refine WL.val (x_ia (sA f8_1 hA18) f10_1 sle55 hin) ?_
      refine WL.val (x_ldc rfl (h17.int _ hO.sub) one5) ?_
      refine WL.val (x_assign (.int .u8 x13) rfl) ?_
      refine WL.nil ?_
      refine W.seq ?_
      refine W.region ?_
      refine WL.val (x_move (.int .u32 v14) f3_1) ?_
      refine WL.val (x_move (.int .u8 x13) rfl) ?_
      refine WL.val (x_conv Try.underlying5 Try.underlying71 rfl) ?_
      refine WL.val (x_xor rfl rfl) ?_
      refine WL.val (x_assign (.int .u32 (ibits .xor .u32 v14 (u32w x13))) rfl) ?_
      refine WL.nil ?_
      refine W.seq ?_
      refine W.region ?_
      refine WL.val (x_move (.int .i64 0) rfl) ?_
      refine WL.nil ?_
      obtain ⟨hlim2, hm1⟩ := chk hm1
      obtain ⟨o19, hm2, hm1⟩ := bindSome hm1
      have hO := hO.pick [] trivial
      refine W.blockLoop (fun r w => ∃ (v25 : Int) (i22 : Nat) (H20 : IHeap), v25 = o19 ∧ Le H9 H20 ∧ St w0 H0 [] H20 (ol []) w ∧ r 3 = (.int .u32 v25) ∧ r 8 = (.slice A2 (bytesI p0).length c3) ∧ r 9 = (.int .i64 ((bytesI p0).length : Int)) ∧ r 10 = (.int .i64 (i11 : Int))) (fun k r w => ∃ (i22 : Nat) (rest23 : Nat) (v25 : Int) (H20 : IHeap), rest23 = k ∧ Int.toNat (8 - (i22 : Int)) = rest23 ∧ crc_Sum_l2 rest23 i22 v25 = some o19 ∧ Le H9 H20 ∧ St w0 H0 [] H20 (ol []) w ∧ r 3 = (.int .u32 v25) ∧ r 8 = (.slice A2 (bytesI p0).length c3) ∧ r 9 = (.int .i64 ((bytesI p0).length : Int)) ∧ r 10 = (.int .i64 (i11 : Int)) ∧ r 18 = (.int .i64 (i22 : Int))) (Int.toNat 8) ?_ ?_ ?_
      · exact ⟨0, _, ibits .xor .u32 v14 (u32w x13), _, rfl, cnt_init _, hm2, Le.refl _, hO, rfl, f8_1, f9_1, f10_1, rfl⟩
      ·
        intro k r w
        rintro ⟨i22, rest23, v25, H20, rfl, hd26, hm2, le21, hO, f3_2, f8_2, f9_2, f10_2, f18_2⟩
        cases rest23 with
        | zero =>
          rw [crc_Sum_l2] at hm2
          have hlt := cnt_zero hd26
          refine W.seq ?_
          refine W.region ?_
          refine WL.val (x_lss f18_2 rfl) ?_
          refine WL.nil ?_
          refine W.seq ?_
          refine W.cond_f (kb rfl hlt) ?_
          refine W.exit _ rfl ?_
          obtain rfl := Option.some.inj hm2
          exact ⟨v25, i22, H20, rfl, le21, hO.pick _ trivial, f3_2, f8_2, f9_2, f10_2⟩
        | succ rest23 =>
          rw [crc_Sum_l2] at hm2
          have hlt := cnt_lt hd26
          have hnx := cnt_next hd26
          have hinc := inc_lim hlt hlim2
          refine W.seq ?_
          refine W.region ?_
          refine WL.val (x_lss f18_2 rfl) ?_
          refine WL.nil ?_
          refine W.seq ?_
          refine W.cond_t (kb rfl hlt) ?_
          refine W.skip ?_
          refine W.seq ?_
          refine W.block ?_
          refine W.seq ?_
          refine W.region ?_
          refine WL.val (x_move (.int .u32 v25) f3_2) ?_
          refine WL.val (x_and rfl rfl) ?_
          refine WL.val (x_assign (.int .u32 (ibits .and .u32 v25 1)) rfl) ?_
          refine WL.nil ?_
          refine W.seq ?_
          refine W.region ?_
          refine WL.val (x_move (.int .u32 v25) f3_2) ?_
          refine WL.val (x_shr rfl rfl rfl) ?_
          refine WL.val (x_assign (.int .u32 (Int.fdiv v25 (2 ^ Int.toNat 1))) rfl) ?_
          refine WL.nil ?_
          refine W.region ?_
          refine WL.val (x_move (.int .u32 (Int.fdiv v25 (2 ^ Int.toNat 1))) rfl) ?_
          refine WL.val (x_move (.int .u32 (ibits .and .u32 v25 1)) rfl) ?_
          refine WL.val (x_mul rfl rfl) ?_
          refine WL.val (x_xor rfl rfl) ?_
          refine WL.val (x_assign (.int .u32 (ibits .xor .u32 (Int.fdiv v25 (2 ^ Int.toNat 1)) (u32w (3988292384 * (ibits .and .u32 v25 1))))) rfl) ?_
          refine WL.nil ?_
          refine W.region ?_
          refine WL.val (x_add f18_2 rfl) ?_
          refine WL.val (x_move (.int .i64 (i64w ((i22 : Int) + 1))) rfl) ?_
          refine WL.nil ?_
          exact ⟨_, Nat.lt_succ_self _, i22 + 1, rest23, ibits .xor .u32 (Int.fdiv v25 (2 ^ Int.toNat 1)) (u32w (3988292384 * (ibits .and .u32 v25 1))), H20, rfl, hnx, hm2, le21, hO.pick _ trivial, rfl, f8_2, f9_2, f10_2, (incv hinc)⟩
      · intro r w
        rintro ⟨v29, i30, H27, rfl, le28, hO, f31, f32, f33, f34⟩
        refine W.region ?_
        refine WL.val (x_add f34 rfl) ?_
        refine WL.val (x_move (.int .i64 (i64w ((i11 : Int) + 1))) rfl) ?_
        refine WL.nil ?_
        exact ⟨_, Nat.lt_succ_self _, i11 + 1, rest12, v29, H27, rfl, hnx, hm1, (le10.trans le28), hO.pick _ trivial, f31, f32, f33, (incv hinc)⟩
  · intro r w
    rintro ⟨v37, i38, H35, rfl, le36, hO, f39⟩
    refine W.seq ?_
    refine W.region ?_
    refine WL.val (x_move (.int .u32 v37) f39) ?_
    refine WL.val (x_xor rfl rfl) ?_
    refine WL.val (x_conv Try.underlying71 Try.underlying3 rfl) ?_
    refine WL.val (x_assign (.int .i64 (i64w (ibits .xor .u32 v37 4294967295))) rfl) ?_
    refine WL.nil ?_
    refine W.ret ?_
    obtain rfl := Option.some.inj hm0
    exact ⟨H35, rfl, hO.done⟩

theorem port_Pack_ok {w0 : World} {H0 : IHeap} (hS : Sub H0 w0) {p0 : Int} {p1 : Int} {p2 : Str}    {res : Str × Int} (hm0 : port_Pack p0 p1 p2 = some res) :
    Ok Try.prog 13 [(.int .u8 p0), (.int .i64 p1), (vs p2)].toArray w0 H0 (fun H' v => v = (.tuple ([(vs res.1), (.int .i64 res.2)] : List Value).toArray)) := by
  unfold port_Pack at hm0
  refine ok_of_W Try.func13 rfl Try.ntmps13 (ts := [6, 7]) rfl rfl rfl ?_
  have hO := St.start hS
  refine W.seq ?_
  refine W.region ?_
  refine WL.val (x_assign (vs ([] : Str)) rfl) ?_
  refine WL.val (x_assign (.int .i64 0) rfl) ?_
  refine WL.nil ?_
  refine W.seq ?_
  refine W.seq ?_
  refine W.region ?_
  refine WL.val (x_move (.int .u8 p0) rfl) ?_
  refine WL.nil ?_
  refine W.block ?_
  refine W.seq ?_
  refine W.block ?_
  refine W.seq ?_
  refine W.block ?_
  refine W.seq ?_
  refine W.seq ?_
  refine W.seq ?_
  refine W.region ?_
  refine WL.val (x_eql rfl rfl) ?_
  refine WL.val (x_assign (.bool (p0 == 65)) rfl) ?_
  refine WL.nil ?_
  refine W.test rfl hm0 ?_ ?_
  · intro hb1 hm0
    refine W.exit _ rfl ?_
    refine W.seq ?_
    refine W.region ?_
    refine WL.val (x_move (vs p2) rfl) ?_
    refine WL.val (x_neqs rfl rfl) ?_
    refine WL.nil ?_
    refine W.test rfl hm0 ?_ ?_
    · intro hb2 hm0
      refine W.seq ?_
      refine W.region ?_
      refine WL.val (x_assign (vs ([] : Str)) rfl) ?_
      refine WL.val (x_assign (.int .i64 1) rfl) ?_
      refine WL.nil ?_
      refine W.ret ?_
      obtain rfl := Option.some.inj hm0
      exact ⟨H0, rfl, hO.done⟩
    · intro hb2 hm0
      refine W.skip ?_
      refine W.seq ?_
      refine W.seq ?_
      refine W.seq ?_
      refine W.region ?_
      refine WL.val (x_move (.int .i64 p1) rfl) ?_
      refine WL.val (x_lss rfl rfl) ?_
      refine WL.val (x_move (.bool (decide (p1 < 0))) rfl) ?_
      refine WL.gval rfl rfl (fun hb => x_move (.int .i64 p1) rfl) ?_
      refine WL.gval rfl rfl (fun hb => x_gtr (gv hb) rfl) ?_
      refine WL.val (x_pick rfl (.bool ((decide (p1 < 0)) || (decide (2147483647 < p1)))) pick_or) ?_
      refine WL.nil ?_
      refine W.test rfl hm0 ?_ ?_
      · intro hb3 hm0
        refine W.seq ?_
        refine W.region ?_
        refine WL.val (x_assign (vs ([] : Str)) rfl) ?_
        refine WL.val (x_assign (.int .i64 1) rfl) ?_
        refine WL.nil ?_
        refine W.ret ?_
        obtain rfl := Option.some.inj hm0
        exact ⟨H0, rfl, hO.done⟩
      · intro hb3 hm0
        refine W.skip ?_
        refine W.seq ?_
        refine W.draw (SD w0 H0 [] H0 []) (fun i => ([] : List Nat).contains i) mixed 9 rfl _ rfl ?_
        intro w4 hh1 hh2 hh3 hh4; have hO := hO.same hh1 hh2 hh3 hh4; clear hh1 hh2 hh3 hh4
        have hS : SD w0 H0 [] H0 [] w4 := ⟨_, _, Le.refl _, hO, trivial⟩
        refine WA.take (i := 0) rfl (by kernel_rfl) (fun w hS => x_move (.int .u8 p0) rfl) hS ?_
        refine WA.take (i := 3) rfl (by kernel_rfl) (fun w hS => x_move (.int .i64 p1) rfl) hS ?_
        refine WA.take (i := 6) rfl (by kernel_rfl) (fun w hS => x_move (vs p2) rfl) hS ?_
        obtain ⟨t5, ht6, hm0⟩ := bindSome hm0
        refine WA.all [1, 4] (by kernel_rfl) (by simp) ?_
        intro i hi; simp only [List.mem_cons, List.not_mem_nil, or_false] at hi
        rcases hi with rfl | rfl
        · refine ⟨_, rfl, ?_⟩
          refine o_litT (en := (eInt .u8)) 0 [(.int .u8 p0)] ([p0] : List Int) hO sli55 ⟨rfl, trivial⟩ rfl rfl rfl ?_
          intro g7 cs8 w9 hr10 hO
          have hS : SD w0 H0 [] H0 [] _ := ⟨_, _, (Le.refl _), hO, trivial⟩
          refine WL.nil ⟨fun _ => hS, ?_⟩
          refine WA.all [2, 4] (by kernel_rfl) (by simp) ?_
          intro i hi; simp only [List.mem_cons, List.not_mem_nil, or_false] at hi
          rcases hi with rfl | rfl
          · refine ⟨_, rfl, ?_⟩
            refine WL.val (x_str Try.underlying55 Try.underlying5 Try.underlying9 rfl (Src.row (k := 0) hO rfl) hr10) ?_
            have hS : SD w0 H0 [] H0 [] _ := ⟨_, _, (Le.refl _), hO, trivial⟩
            refine WL.nil ⟨fun _ => hS, ?_⟩
            refine WA.only (i := 4) (by kernel_rfl) rfl ?_
            refine o_call hO go18 (port_four_ok hO.sub  ht6) rfl ?_
            rintro _ H11 w12 le13 rfl hO
            have hS : SD w0 H0 [] H0 [] _ := ⟨_, _, le13, hO, trivial⟩
            refine WL.nil ⟨fun _ => hS, ?_⟩
            obtain ⟨hz14, hm0⟩ := chk hm0
            refine WA.take (i := 5) rfl (by kernel_rfl) (fun w hS => x_cat rfl rfl hz14) hS ?_
            obtain ⟨hz15, hm0⟩ := chk hm0
            refine WA.take (i := 7) rfl (by kernel_rfl) (fun w hS => x_cat rfl rfl hz15) hS ?_
            refine WA.take (i := 8) rfl (by kernel_rfl) (fun w hS => x_assign (vs (((bstr ([p0] : List Int)) ++ t5) ++ p2)) rfl) hS ?_
            refine WA.done (by kernel_rfl) ?_
            refine W.seq ?_
            refine W.region ?_
            refine WL.val (x_move (vs (((bstr ([p0] : List Int)) ++ t5) ++ p2)) rfl) ?_
            refine WL.val (x_move (vs (((bstr ([p0] : List Int)) ++ t5) ++ p2)) rfl) ?_
            obtain ⟨t16, ht17, hm0⟩ := bindSome hm0
            refine o_call hO go19 (crc_Sum_ok hO.sub  ht17) rfl ?_
            rintro _ H18 w19 le20 rfl hO
            obtain ⟨t21, ht22, hm0⟩ := bindSome hm0
            refine o_call hO go18 (port_four_ok hO.sub  ht22) rfl ?_
            rintro _ H23 w24 le25 rfl hO
            obtain ⟨hz26, hm0⟩ := chk hm0
            refine WL.val (x_cat rfl rfl hz26) ?_
            refine WL.val (x_assign (vs ((((bstr ([p0] : List Int)) ++ t5) ++ p2) ++ t21)) rfl) ?_
            refine WL.val (x_assign (.int .i64 0) rfl) ?_
            refine WL.nil ?_
            refine W.ret ?_
            obtain rfl := Option.some.inj hm0
            exact ⟨H23, rfl, hO.done⟩
          · refine ⟨_, rfl, ?_⟩
            refine o_call hO go18 (port_four_ok hO.sub  ht6) rfl ?_
            rintro _ H11 w12 le13 rfl hO
            have hS : SD w0 H0 [] H0 [] _ := ⟨_, _, le13, hO, trivial⟩
            refine WL.nil ⟨fun _ => hS, ?_⟩
            refine WA.only (i := 2) (by kernel_rfl) rfl ?_
            refine WL.val (x_str Try.underlying55 Try.underlying5 Try.underlying9 rfl (Src.row (k := 0) hO rfl) (hr10.up le13)) ?_
            have hS : SD w0 H0 [] H0 [] _ := ⟨_, _, le13, hO, trivial⟩
            refine WL.nil ⟨fun _ => hS, ?_⟩
            obtain ⟨hz14, hm0⟩ := chk hm0
            refine WA.take (i := 5) rfl (by kernel_rfl) (fun w hS => x_cat rfl rfl hz14) hS ?_
            obtain ⟨hz15, hm0⟩ := chk hm0
            refine WA.take (i := 7) rfl (by kernel_rfl) (fun w hS => x_cat rfl rfl hz15) hS ?_
            refine WA.take (i := 8) rfl (by kernel_rfl) (fun w hS => x_assign (vs (((bstr ([p0] : List Int)) ++ t5) ++ p2)) rfl) hS ?_
            refine WA.done (by kernel_rfl) ?_
            refine W.seq ?_
            refine W.region ?_
            refine WL.val (x_move (vs (((bstr ([p0] : List Int)) ++ t5) ++ p2)) rfl) ?_
            refine WL.val (x_move (vs (((bstr ([p0] : List Int)) ++ t5) ++ p2)) rfl) ?_
            obtain ⟨t16, ht17, hm0⟩ := bindSome hm0
            refine o_call hO go19 (crc_Sum_ok hO.sub  ht17) rfl ?_
            rintro _ H18 w19 le20 rfl hO
            obtain ⟨t21, ht22, hm0⟩ := bindSome hm0
            refine o_call hO go18 (port_four_ok hO.sub  ht22) rfl ?_
            rintro _ H23 w24 le25 rfl hO
            obtain ⟨hz26, hm0⟩ := chk hm0
            refine WL.val (x_cat rfl rfl hz26) ?_
            refine WL.val (x_assign (vs ((((bstr ([p0] : List Int)) ++ t5) ++ p2) ++ t21)) rfl) ?_
            refine WL.val (x_assign (.int .i64 0) rfl) ?_
            refine WL.nil ?_
            refine W.ret ?_
            obtain rfl := Option.some.inj hm0
            exact ⟨H23, rfl, hO.done⟩
        · refine ⟨_, rfl, ?_⟩
          refine o_call hO go18 (port_four_ok hO.sub  ht6) rfl ?_
          rintro _ H7 w8 le9 rfl hO
          have hS : SD w0 H0 [] H0 [] _ := ⟨_, _, le9, hO, trivial⟩
          refine WL.nil ⟨fun _ => hS, ?_⟩
          refine WA.only (i := 1) (by kernel_rfl) rfl ?_
          refine o_litT (en := (eInt .u8)) 1 [(.int .u8 p0)] ([p0] : List Int) hO sli55 ⟨rfl, trivial⟩ rfl rfl rfl ?_
          intro g10 cs11 w12 hr13 hO
          have hS : SD w0 H0 [] H0 [] _ := ⟨_, _, le9, hO, trivial⟩
          refine WL.nil ⟨fun _ => hS, ?_⟩
          refine WA.only (i := 2) (by kernel_rfl) rfl ?_
          refine WL.val (x_str Try.underlying55 Try.underlying5 Try.underlying9 rfl (Src.row (k := 1) hO rfl) hr13) ?_
          have hS : SD w0 H0 [] H0 [] _ := ⟨_, _, le9, hO, trivial⟩
          refine WL.nil ⟨fun _ => hS, ?_⟩
          obtain ⟨hz14, hm0⟩ := chk hm0
          refine WA.take (i := 5) rfl (by kernel_rfl) (fun w hS => x_cat rfl rfl hz14) hS ?_
          obtain ⟨hz15, hm0⟩ := chk hm0
          refine WA.take (i := 7) rfl (by kernel_rfl) (fun w hS => x_cat rfl rfl hz15) hS ?_
          refine WA.take (i := 8) rfl (by kernel_rfl) (fun w hS => x_assign (vs (((bstr ([p0] : List Int)) ++ t5) ++ p2)) rfl) hS ?_
          refine WA.done (by kernel_rfl) ?_
          refine W.seq ?_
          refine W.region ?_
          refine WL.val (x_move (vs (((bstr ([p0] : List Int)) ++ t5) ++ p2)) rfl) ?_
          refine WL.val (x_move (vs (((bstr ([p0] : List Int)) ++ t5) ++ p2)) rfl) ?_
          obtain ⟨t16, ht17, hm0⟩ := bindSome hm0
          refine o_call hO go19 (crc_Sum_ok hO.sub  ht17) rfl ?_
          rintro _ H18 w19 le20 rfl hO
          obtain ⟨t21, ht22, hm0⟩ := bindSome hm0
          refine o_call hO go18 (port_four_ok hO.sub  ht22) rfl ?_
          rintro _ H23 w24 le25 rfl hO
          obtain ⟨hz26, hm0⟩ := chk hm0
          refine WL.val (x_cat rfl rfl hz26) ?_
          refine WL.val (x_assign (vs ((((bstr ([p0] : List Int)) ++ t5) ++ p2) ++ t21)) rfl) ?_
          refine WL.val (x_assign (.int .i64 0) rfl) ?_
          refine WL.nil ?_
          refine W.ret ?_
          obtain rfl := Option.some.inj hm0
          exact ⟨H23, rfl, hO.done⟩
  · intro hb1 hm0
    refine W.skip ?_
    refine W.seq ?_
    refine W.region ?_
    refine WL.val (x_eql rfl rfl) ?_
    refine WL.val (x_assign (.bool (p0 == 68)) rfl) ?_
    refine WL.nil ?_
    refine W.test rfl hm0 ?_ ?_
    · intro hb27 hm0
      refine W.exit _ rfl ?_
      refine W.seq ?_
      refine W.seq ?_
      refine W.seq ?_
      refine W.region ?_
      refine WL.val (x_move (.int .i64 p1) rfl) ?_
      refine WL.val (x_lss rfl rfl) ?_
      refine WL.val (x_move (.bool (decide (p1 < 0))) rfl) ?_
      refine WL.gval rfl rfl (fun hb => x_move (.int .i64 p1) rfl) ?_
      refine WL.gval rfl rfl (fun hb => x_gtr (gv hb) rfl) ?_
      refine WL.val (x_pick rfl (.bool ((decide (p1 < 0)) || (decide (2147483647 < p1)))) pick_or) ?_
      refine WL.nil ?_
      refine W.test rfl hm0 ?_ ?_
      · intro hb28 hm0
        refine W.seq ?_
        refine W.region ?_
        refine WL.val (x_assign (vs ([] : Str)) rfl) ?_
        refine WL.val (x_assign (.int .i64 1) rfl) ?_
        refine WL.nil ?_
        refine W.ret ?_
        obtain rfl := Option.some.inj hm0
        exact ⟨H0, rfl, hO.done⟩
      · intro hb28 hm0
        refine W.skip ?_
        refine W.seq ?_
        refine W.draw (SD w0 H0 [] H0 []) (fun i => ([] : List Nat).contains i) mixed 9 rfl _ rfl ?_
        intro w29 hh1 hh2 hh3 hh4; have hO := hO.same hh1 hh2 hh3 hh4; clear hh1 hh2 hh3 hh4
        have hS : SD w0 H0 [] H0 [] w29 := ⟨_, _, Le.refl _, hO, trivial⟩
        refine WA.take (i := 0) rfl (by kernel_rfl) (fun w hS => x_move (.int .u8 p0) rfl) hS ?_
        refine WA.take (i := 3) rfl (by kernel_rfl) (fun w hS => x_move (.int .i64 p1) rfl) hS ?_
        refine WA.take (i := 6) rfl (by kernel_rfl) (fun w hS => x_move (vs p2) rfl) hS ?_
        obtain ⟨t30, ht31, hm0⟩ := bindSome hm0
        refine WA.all [1, 4] (by kernel_rfl) (by simp) ?_
        intro i hi; simp only [List.mem_cons, List.not_mem_nil, or_false] at hi
        rcases hi with rfl | rfl
        · refine ⟨_, rfl, ?_⟩
          refine o_litT (en := (eInt .u8)) 2 [(.int .u8 p0)] ([p0] : List Int) hO sli55 ⟨rfl, trivial⟩ rfl rfl rfl ?_
          intro g32 cs33 w34 hr35 hO
          have hS : SD w0 H0 [] H0 [] _ := ⟨_, _, (Le.refl _), hO, trivial⟩
          refine WL.nil ⟨fun _ => hS, ?_⟩
          refine WA.all [2, 4] (by kernel_rfl) (by simp) ?_
          intro i hi; simp only [List.mem_cons, List.not_mem_nil, or_false] at hi
          rcases hi with rfl | rfl
          · refine ⟨_, rfl, ?_⟩
            refine WL.val (x_str Try.underlying55 Try.underlying5 Try.underlying9 rfl (Src.row (k := 2) hO rfl) hr35) ?_
            have hS : SD w0 H0 [] H0 [] _ := ⟨_, _, (Le.refl _), hO, trivial⟩
            refine WL.nil ⟨fun _ => hS, ?_⟩
            refine WA.only (i := 4) (by kernel_rfl) rfl ?_
            refine o_call hO go18 (port_four_ok hO.sub  ht31) rfl ?_
            rintro _ H36 w37 le38 rfl hO
            have hS : SD w0 H0 [] H0 [] _ := ⟨_, _, le38, hO, trivial⟩
            refine WL.nil ⟨fun _ => hS, ?_⟩
            obtain ⟨hz39, hm0⟩ := chk hm0
            refine WA.take (i := 5) rfl (by kernel_rfl) (fun w hS => x_cat rfl rfl hz39) hS ?_
            obtain ⟨hz40, hm0⟩ := chk hm0
            refine WA.take (i := 7) rfl (by kernel_rfl) (fun w hS => x_cat rfl rfl hz40) hS ?_
            refine WA.take (i := 8) rfl (by kernel_rfl) (fun w hS => x_assign (vs (((bstr ([p0] : List Int)) ++ t30) ++ p2)) rfl) hS ?_
            refine WA.done (by kernel_rfl) ?_
            refine W.seq ?_
            refine W.region ?_
            refine WL.val (x_move (vs (((bstr ([p0] : List Int)) ++ t30) ++ p2)) rfl) ?_
            refine WL.val (x_move (vs (((bstr ([p0] : List Int)) ++ t30) ++ p2)) rfl) ?_
            obtain ⟨t41, ht42, hm0⟩ := bindSome hm0
            refine o_call hO go19 (crc_Sum_ok hO.sub  ht42) rfl ?_
            rintro _ H43 w44 le45 rfl hO
            obtain ⟨t46, ht47, hm0⟩ := bindSome hm0
            refine o_call hO go18 (port_four_ok hO.sub  ht47) rfl ?_
            rintro _ H48 w49 le50 rfl hO
            obtain ⟨hz51, hm0⟩ := chk hm0
            refine WL.val (x_cat rfl rfl hz51) ?_
            refine WL.val (x_assign (vs ((((bstr ([p0] : List Int)) ++ t30) ++ p2) ++ t46)) rfl) ?_
            refine WL.val (x_assign (.int .i64 0) rfl) ?_
            refine WL.nil ?_
            refine W.ret ?_
            obtain rfl := Option.some.inj hm0
            exact ⟨H48, rfl, hO.done⟩
          · refine ⟨_, rfl, ?_⟩
            refine o_call hO go18 (port_four_ok hO.sub  ht31) rfl ?_
            rintro _ H36 w37 le38 rfl hO
            have hS : SD w0 H0 [] H0 [] _ := ⟨_, _, le38, hO, trivial⟩
            refine WL.nil ⟨fun _ => hS, ?_⟩
            refine WA.only (i := 2) (by kernel_rfl) rfl ?_
            refine WL.val (x_str Try.underlying55 Try.underlying5 Try.underlying9 rfl (Src.row (k := 2) hO rfl) (hr35.up le38)) ?_
            have hS : SD w0 H0 [] H0 [] _ := ⟨_, _, le38, hO, trivial⟩
            refine WL.nil ⟨fun _ => hS, ?_⟩
            obtain ⟨hz39, hm0⟩ := chk hm0
            refine WA.take (i := 5) rfl (by kernel_rfl) (fun w hS => x_cat rfl rfl hz39) hS ?_
            obtain ⟨hz40, hm0⟩ := chk hm0
            refine WA.take (i := 7) rfl (by kernel_rfl) (fun w hS => x_cat rfl rfl hz40) hS ?_
            refine WA.take (i := 8) rfl (by kernel_rfl) (fun w hS => x_assign (vs (((bstr ([p0] : List Int)) ++ t30) ++ p2)) rfl) hS ?_
            refine WA.done (by kernel_rfl) ?_
            refine W.seq ?_
            refine W.region ?_
            refine WL.val (x_move (vs (((bstr ([p0] : List Int)) ++ t30) ++ p2)) rfl) ?_
            refine WL.val (x_move (vs (((bstr ([p0] : List Int)) ++ t30) ++ p2)) rfl) ?_
            obtain ⟨t41, ht42, hm0⟩ := bindSome hm0
            refine o_call hO go19 (crc_Sum_ok hO.sub  ht42) rfl ?_
            rintro _ H43 w44 le45 rfl hO
            obtain ⟨t46, ht47, hm0⟩ := bindSome hm0
            refine o_call hO go18 (port_four_ok hO.sub  ht47) rfl ?_
            rintro _ H48 w49 le50 rfl hO
            obtain ⟨hz51, hm0⟩ := chk hm0
            refine WL.val (x_cat rfl rfl hz51) ?_
            refine WL.val (x_assign (vs ((((bstr ([p0] : List Int)) ++ t30) ++ p2) ++ t46)) rfl) ?_
            refine WL.val (x_assign (.int .i64 0) rfl) ?_
            refine WL.nil ?_
            refine W.ret ?_
            obtain rfl := Option.some.inj hm0
            exact ⟨H48, rfl, hO.done⟩
        · refine ⟨_, rfl, ?_⟩
          refine o_call hO go18 (port_four_ok hO.sub  ht31) rfl ?_
          rintro _ H32 w33 le34 rfl hO
          have hS : SD w0 H0 [] H0 [] _ := ⟨_, _, le34, hO, trivial⟩
          refine WL.nil ⟨fun _ => hS, ?_⟩
          refine WA.only (i := 1) (by kernel_rfl) rfl ?_
          refine o_litT (en := (eInt .u8)) 3 [(.int .u8 p0)] ([p0] : List Int) hO sli55 ⟨rfl, trivial⟩ rfl rfl rfl ?_
          intro g35 cs36 w37 hr38 hO
          have hS : SD w0 H0 [] H0 [] _ := ⟨_, _, le34, hO, trivial⟩
          refine WL.nil ⟨fun _ => hS, ?_⟩
          refine WA.only (i := 2) (by kernel_rfl) rfl ?_
          refine WL.val (x_str Try.underlying55 Try.underlying5 Try.underlying9 rfl (Src.row (k := 3) hO rfl) hr38) ?_
          have hS : SD w0 H0 [] H0 [] _ := ⟨_, _, le34, hO, trivial⟩
          refine WL.nil ⟨fun _ => hS, ?_⟩
          obtain ⟨hz39, hm0⟩ := chk hm0
          refine WA.take (i := 5) rfl (by kernel_rfl) (fun w hS => x_cat rfl rfl hz39) hS ?_
          obtain ⟨hz40, hm0⟩ := chk hm0
          refine WA.take (i := 7) rfl (by kernel_rfl) (fun w hS => x_cat rfl rfl hz40) hS ?_
          refine WA.take (i := 8) rfl (by kernel_rfl) (fun w hS => x_assign (vs (((bstr ([p0] : List Int)) ++ t30) ++ p2)) rfl) hS ?_
          refine WA.done (by kernel_rfl) ?_
          refine W.seq ?_
          refine W.region ?_
          refine WL.val (x_move (vs (((bstr ([p0] : List Int)) ++ t30) ++ p2)) rfl) ?_
          refine WL.val (x_move (vs (((bstr ([p0] : List Int)) ++ t30) ++ p2)) rfl) ?_
          obtain ⟨t41, ht42, hm0⟩ := bindSome hm0
          refine o_call hO go19 (crc_Sum_ok hO.sub  ht42) rfl ?_
          rintro _ H43 w44 le45 rfl hO
          obtain ⟨t46, ht47, hm0⟩ := bindSome hm0
          refine o_call hO go18 (port_four_ok hO.sub  ht47) rfl ?_
          rintro _ H48 w49 le50 rfl hO
          obtain ⟨hz51, hm0⟩ := chk hm0
          refine WL.val (x_cat rfl rfl hz51) ?_
          refine WL.val (x_assign (vs ((((bstr ([p0] : List Int)) ++ t30) ++ p2) ++ t46)) rfl) ?_
          refine WL.val (x_assign (.int .i64 0) rfl) ?_
          refine WL.nil ?_
          refine W.ret ?_
          obtain rfl := Option.some.inj hm0
          exact ⟨H48, rfl, hO.done⟩
    · intro hb27 hm0
      refine W.skip ?_
      refine W.exit _ rfl ?_
      refine W.seq ?_
      refine W.region ?_
      refine WL.val (x_assign (vs ([] : Str)) rfl) ?_
      refine WL.val (x_assign (.int .i64 1) rfl) ?_
      refine WL.nil ?_
      refine W.ret ?_
      obtain rfl := Option.some.inj hm0
      exact ⟨H0, rfl, hO.done⟩

theorem port_Unpack_ok {w0 : World} {H0 : IHeap} (hS : Sub H0 w0) {p0 : Str}    {res : Int × Int × Str × Int} (hm0 : port_Unpack p0 = some res) :
    Ok Try.prog 15 [(vs p0)].toArray w0 H0 (fun H' v => v = (.tuple ([(.int .u8 res.1), (.int .i64 res.2.1), (vs res.2.2.1), (.int .i64 res.2.2.2)] : List Value).toArray)) := by
  unfold port_Unpack at hm0
  refine ok_of_W Try.func15 rfl Try.ntmps15 (ts := [2, 3, 4, 5]) rfl rfl rfl ?_
  have hO := St.start hS
  refine W.seq ?_
  refine W.region ?_
  refine WL.val (x_assign (.int .u8 0) rfl) ?_
  refine WL.val (x_assign (.int .i64 0) rfl) ?_
  refine WL.val (x_assign (vs ([] : Str)) rfl) ?_
  refine WL.val (x_assign (.int .i64 0) rfl) ?_
  refine WL.nil ?_
  refine W.seq ?_
  refine W.seq ?_
  refine W.region ?_
  refine WL.val (x_move (vs p0) rfl) ?_
  refine WL.val (x_lens rfl Try.underlying9) ?_
  refine WL.val (x_lss rfl rfl) ?_
  refine WL.nil ?_
  refine W.test rfl hm0 ?_ ?_
  · intro hb1 hm0
    refine W.seq ?_
    refine W.region ?_
    refine WL.val (x_assign (.int .u8 0) rfl) ?_
    refine WL.val (x_assign (.int .i64 0) rfl) ?_
    refine WL.val (x_assign (vs ([] : Str)) rfl) ?_
    refine WL.val (x_assign (.int .i64 2) rfl) ?_
    refine WL.nil ?_
    refine W.ret ?_
    obtain rfl := Option.some.inj hm0
    exact ⟨H0, rfl, hO.done⟩
  · intro hb1 hm0
    refine W.skip ?_
    refine W.seq ?_
    refine W.region ?_
    refine WL.val (x_move (vs p0) rfl) ?_
    refine WL.val (x_lens rfl Try.underlying9) ?_
    refine WL.val (x_sub rfl rfl) ?_
    refine WL.val (x_assign (.int .i64 (i64w ((p0.length : Int) - 4))) rfl) ?_
    refine WL.nil ?_
    refine W.seq ?_
    refine W.seq ?_
    refine W.draw (SD w0 H0 [] H0 []) (fun i => ([] : List Nat).contains i) mixed 9 rfl _ rfl ?_
    intro w2 hh1 hh2 hh3 hh4; have hO := hO.same hh1 hh2 hh3 hh4; clear hh1 hh2 hh3 hh4
    have hS : SD w0 H0 [] H0 [] w2 := ⟨_, _, Le.refl _, hO, trivial⟩
    refine WA.take (i := 0) rfl (by kernel_rfl) (fun w hS => x_move (vs p0) rfl) hS ?_
    refine WA.take (i := 1) rfl (by kernel_rfl) (fun w hS => x_move (.int .i64 (i64w ((p0.length : Int) - 4))) rfl) hS ?_
    obtain ⟨hz3, hm0⟩ := chk hm0
    refine WA.take (i := 2) rfl (by kernel_rfl) (fun w hS => x_cutl Try.underlying9 rfl rfl hz3) hS ?_
    refine WA.take (i := 3) rfl (by kernel_rfl) (fun w hS => x_move (vs p0) rfl) hS ?_
    refine WA.take (i := 4) rfl (by kernel_rfl) (fun w hS => x_move (.int .i64 (i64w ((p0.length : Int) - 4))) rfl) hS ?_
    obtain ⟨hz4, hm0⟩ := chk hm0
    refine WA.take (i := 5) rfl (by kernel_rfl) (fun w hS => x_cuth Try.underlying9 rfl rfl hz4) hS ?_
    refine WA.only (i := 6) (by kernel_rfl) rfl ?_
    obtain ⟨t5, ht6, hm0⟩ := bindSome hm0
    refine o_call hO go19 (crc_Sum_ok hO.sub  ht6) rfl ?_
    rintro _ H7 w8 le9 rfl hO
    have hS : SD w0 H0 [] H0 [] _ := ⟨_, _, le9, hO, trivial⟩
    refine WL.nil ⟨fun _ => hS, ?_⟩
    refine WA.only (i := 7) (by kernel_rfl) rfl ?_
    obtain ⟨t10, ht11, hm0⟩ := bindSome hm0
    refine o_call hO go18 (port_four_ok hO.sub  ht11) rfl ?_
    rintro _ H12 w13 le14 rfl hO
    have hS : SD w0 H0 [] H0 [] _ := ⟨_, _, (le9.trans le14), hO, trivial⟩
    refine WL.nil ⟨fun _ => hS, ?_⟩
    refine WA.take (i := 8) rfl (by kernel_rfl) (fun w hS => x_neqs rfl rfl) hS ?_
    refine WA.done (by kernel_rfl) ?_
    refine W.test rfl hm0 ?_ ?_
    · intro hb15 hm0
      refine W.seq ?_
      refine W.region ?_
      refine WL.val (x_assign (.int .u8 0) rfl) ?_
      refine WL.val (x_assign (.int .i64 0) rfl) ?_
      refine WL.val (x_assign (vs ([] : Str)) rfl) ?_
      refine WL.val (x_assign (.int .i64 9) rfl) ?_
      refine WL.nil ?_
      refine W.ret ?_
      obtain rfl := Option.some.inj hm0
      exact ⟨H12, rfl, hO.done⟩
    · intro hb15 hm0
      refine W.skip ?_
      refine W.seq ?_
      refine W.draw (SD w0 H0 [] H12 []) (fun i => ([] : List Nat).contains i) mixed 19 rfl _ rfl ?_
      intro w16 hh1 hh2 hh3 hh4; have hO := hO.same hh1 hh2 hh3 hh4; clear hh1 hh2 hh3 hh4
      have hS : SD w0 H0 [] H12 [] w16 := ⟨_, _, Le.refl _, hO, trivial⟩
      refine WA.take (i := 0) rfl (by kernel_rfl) (fun w hS => x_move (vs p0) rfl) hS ?_
      obtain ⟨hz17, hm0⟩ := chk hm0
      refine WA.take (i := 1) rfl (by kernel_rfl) (fun w hS => x_idx Try.underlying9 rfl rfl hz17) hS ?_
      refine WA.take (i := 2) rfl (by kernel_rfl) (fun w hS => x_conv Try.underlying5 Try.underlying3 rfl) hS ?_
      refine WA.take (i := 3) rfl (by kernel_rfl) (fun w hS => x_move (vs p0) rfl) hS ?_
      obtain ⟨hz18, hm0⟩ := chk hm0
      refine WA.take (i := 4) rfl (by kernel_rfl) (fun w hS => x_idx Try.underlying9 rfl rfl hz18) hS ?_
      refine WA.take (i := 5) rfl (by kernel_rfl) (fun w hS => x_conv Try.underlying5 Try.underlying3 rfl) hS ?_
      refine WA.take (i := 6) rfl (by kernel_rfl) (fun w hS => x_shl rfl rfl rfl) hS ?_
      refine WA.take (i := 7) rfl (by kernel_rfl) (fun w hS => x_or rfl rfl) hS ?_
      refine WA.take (i := 8) rfl (by kernel_rfl) (fun w hS => x_move (vs p0) rfl) hS ?_
      obtain ⟨hz19, hm0⟩ := chk hm0
      refine WA.take (i := 9) rfl (by kernel_rfl) (fun w hS => x_idx Try.underlying9 rfl rfl hz19) hS ?_
      refine WA.take (i := 10) rfl (by kernel_rfl) (fun w hS => x_conv Try.underlying5 Try.underlying3 rfl) hS ?_
      refine WA.take (i := 11) rfl (by kernel_rfl) (fun w hS => x_shl rfl rfl rfl) hS ?_
      refine WA.take (i := 12) rfl (by kernel_rfl) (fun w hS => x_or rfl rfl) hS ?_
      refine WA.take (i := 13) rfl (by kernel_rfl) (fun w hS => x_move (vs p0) rfl) hS ?_
      obtain ⟨hz20, hm0⟩ := chk hm0
      refine WA.take (i := 14) rfl (by kernel_rfl) (fun w hS => x_idx Try.underlying9 rfl rfl hz20) hS ?_
      refine WA.take (i := 15) rfl (by kernel_rfl) (fun w hS => x_conv Try.underlying5 Try.underlying3 rfl) hS ?_
      refine WA.take (i := 16) rfl (by kernel_rfl) (fun w hS => x_shl rfl rfl rfl) hS ?_
      refine WA.take (i := 17) rfl (by kernel_rfl) (fun w hS => x_or rfl rfl) hS ?_
      refine WA.take (i := 18) rfl (by kernel_rfl) (fun w hS => x_assign (.int .i64 (ibits .or .i64 (ibits .or .i64 (ibits .or .i64 (i64w (chr p0 1)) (i64w ((i64w (chr p0 2)) * 2 ^ Int.toNat 8))) (i64w ((i64w (chr p0 3)) * 2 ^ Int.toNat 16))) (i64w ((i64w (chr p0 4)) * 2 ^ Int.toNat 24)))) rfl) hS ?_
      refine WA.done (by kernel_rfl) ?_
      refine W.seq ?_
      refine W.seq ?_
      refine W.draw (SD w0 H0 [] H12 []) (fun i => ([] : List Nat).contains i) mixed 12 rfl _ rfl ?_
      intro w21 hh1 hh2 hh3 hh4; have hO := hO.same hh1 hh2 hh3 hh4; clear hh1 hh2 hh3 hh4
      have hS : SD w0 H0 [] H12 [] w21 := ⟨_, _, Le.refl _, hO, trivial⟩
      refine WA.take (i := 0) rfl (by kernel_rfl) (fun w hS => x_move (vs p0) rfl) hS ?_
      obtain ⟨hz22, hm0⟩ := chk hm0
      refine WA.take (i := 1) rfl (by kernel_rfl) (fun w hS => x_idx Try.underlying9 rfl rfl hz22) hS ?_
      refine WA.take (i := 2) rfl (by kernel_rfl) (fun w hS => x_move (.int .i64 (ibits .or .i64 (ibits .or .i64 (ibits .or .i64 (i64w (chr p0 1)) (i64w ((i64w (chr p0 2)) * 2 ^ Int.toNat 8))) (i64w ((i64w (chr p0 3)) * 2 ^ Int.toNat 16))) (i64w ((i64w (chr p0 4)) * 2 ^ Int.toNat 24)))) rfl) hS ?_
      refine WA.take (i := 3) rfl (by kernel_rfl) (fun w hS => x_move (vs p0) rfl) hS ?_
      refine WA.take (i := 4) rfl (by kernel_rfl) (fun w hS => x_move (.int .i64 (i64w ((p0.length : Int) - 4))) rfl) hS ?_
      obtain ⟨hz23, hm0⟩ := chk hm0
      refine WA.take (i := 5) rfl (by kernel_rfl) (fun w hS => x_cutlh Try.underlying9 rfl rfl rfl hz23) hS ?_
      refine WA.only (i := 6) (by kernel_rfl) rfl ?_
      obtain ⟨t24, ht25, hm0⟩ := bindSome hm0
      refine o_call hO go13 (port_Pack_ok hO.sub  ht25) rfl ?_
      rintro _ H26 w27 le28 rfl hO
      have hS : SD w0 H0 [] H12 [] _ := ⟨_, _, le28, hO, trivial⟩
      refine WL.nil ⟨fun _ => hS, ?_⟩
      refine WA.take (i := 7) rfl (by kernel_rfl) (fun w hS => x_move (.tuple ([(vs t24.1), (.int .i64 t24.2)] : List Value).toArray) rfl) hS ?_
      refine WA.take (i := 8) rfl (by kernel_rfl) (fun w hS => x_extract (vs t24.1) rfl rfl) hS ?_
      refine WA.take (i := 9) rfl (by kernel_rfl) (fun w hS => x_extract (.int .i64 t24.2) rfl rfl) hS ?_
      refine WA.take (i := 10) rfl (by kernel_rfl) (fun w hS => x_assign (vs t24.1) rfl) hS ?_
      refine WA.take (i := 11) rfl (by kernel_rfl) (fun w hS => x_assign (.int .i64 t24.2) rfl) hS ?_
      refine WA.done (by kernel_rfl) ?_
      refine W.seq ?_
      refine W.region ?_
      refine WL.val (x_move (.int .i64 t24.2) rfl) ?_
      refine WL.val (x_neq rfl rfl) ?_
      refine WL.val (x_move (.bool (t24.2 != 0)) rfl) ?_
      refine WL.gval rfl rfl (fun hb => x_move (vs t24.1) rfl) ?_
      refine WL.gval rfl rfl (fun hb => x_move (vs p0) rfl) ?_
      refine WL.gval rfl rfl (fun hb => x_neqs (gv hb) (gv hb)) ?_
      refine WL.val (x_pick rfl (.bool ((t24.2 != 0) || (!(t24.1 == p0)))) pick_or) ?_
      refine WL.nil ?_
      refine W.test rfl hm0 ?_ ?_
      · intro hb29 hm0
        refine W.seq ?_
        refine W.region ?_
        refine WL.val (x_assign (.int .u8 0) rfl) ?_
        refine WL.val (x_assign (.int .i64 0) rfl) ?_
        refine WL.val (x_assign (vs ([] : Str)) rfl) ?_
        refine WL.val (x_assign (.int .i64 2) rfl) ?_
        refine WL.nil ?_
        refine W.ret ?_
        obtain rfl := Option.some.inj hm0
        exact ⟨H26, rfl, hO.done⟩
      · intro hb29 hm0
        refine W.skip ?_
        refine W.seq ?_
        refine W.draw (SD w0 H0 [] H26 []) (fun i => ([] : List Nat).contains i) mixed 10 rfl _ rfl ?_
        intro w30 hh1 hh2 hh3 hh4; have hO := hO.same hh1 hh2 hh3 hh4; clear hh1 hh2 hh3 hh4
        have hS : SD w0 H0 [] H26 [] w30 := ⟨_, _, Le.refl _, hO, trivial⟩
        refine WA.take (i := 0) rfl (by kernel_rfl) (fun w hS => x_move (vs p0) rfl) hS ?_
        obtain ⟨hz31, hm0⟩ := chk hm0
        refine WA.take (i := 1) rfl (by kernel_rfl) (fun w hS => x_idx Try.underlying9 rfl rfl hz31) hS ?_
        refine WA.take (i := 2) rfl (by kernel_rfl) (fun w hS => x_move (.int .i64 (ibits .or .i64 (ibits .or .i64 (ibits .or .i64 (i64w (chr p0 1)) (i64w ((i64w (chr p0 2)) * 2 ^ Int.toNat 8))) (i64w ((i64w (chr p0 3)) * 2 ^ Int.toNat 16))) (i64w ((i64w (chr p0 4)) * 2 ^ Int.toNat 24)))) rfl) hS ?_
        refine WA.take (i := 3) rfl (by kernel_rfl) (fun w hS => x_move (vs p0) rfl) hS ?_
        refine WA.take (i := 4) rfl (by kernel_rfl) (fun w hS => x_move (.int .i64 (i64w ((p0.length : Int) - 4))) rfl) hS ?_
        obtain ⟨hz32, hm0⟩ := chk hm0
        refine WA.take (i := 5) rfl (by kernel_rfl) (fun w hS => x_cutlh Try.underlying9 rfl rfl rfl hz32) hS ?_
        refine WA.take (i := 6) rfl (by kernel_rfl) (fun w hS => x_assign (.int .u8 (chr p0 0)) rfl) hS ?_
        refine WA.take (i := 7) rfl (by kernel_rfl) (fun w hS => x_assign (.int .i64 (ibits .or .i64 (ibits .or .i64 (ibits .or .i64 (i64w (chr p0 1)) (i64w ((i64w (chr p0 2)) * 2 ^ Int.toNat 8))) (i64w ((i64w (chr p0 3)) * 2 ^ Int.toNat 16))) (i64w ((i64w (chr p0 4)) * 2 ^ Int.toNat 24)))) rfl) hS ?_
        refine WA.take (i := 8) rfl (by kernel_rfl) (fun w hS => x_assign (vs (cut p0 5 (i64w ((p0.length : Int) - 4)))) rfl) hS ?_
        refine WA.take (i := 9) rfl (by kernel_rfl) (fun w hS => x_assign (.int .i64 0) rfl) hS ?_
        refine WA.done (by kernel_rfl) ?_
        refine W.ret ?_
        obtain rfl := Option.some.inj hm0
        exact ⟨H26, rfl, hO.done⟩

theorem slices_Clone_link_Frame_ok {w0 : World} {H0 : IHeap} (hS : Sub H0 w0) {p0 : List LinkFrame} {A1_ : Option Addr} {c1_ : Nat} (h1_ : RS eLinkFrame H0 A1_ c1_ p0) {res : List LinkFrame} (hm0 : slices_Clone_link_Frame p0 = some res) :
    OkO Try.prog 21 [(.slice A1_ p0.length c1_)].toArray w0 H0 (fun H' O' v => ∃ (A : Option Addr) (c : Nat) (cs : List Value), v = .slice A res.length c ∧ Rows eLinkFrame H' cs res ∧ O' 0 = some (.row A c 50 eLinkFrame.size res.length cs)) := by
  obtain ⟨hl, hm0⟩ := chk hm0
  obtain rfl := Option.some.inj hm0
  refine okO_of_W Try.func21 rfl Try.ntmps21 (rs := [.tmp 2]) rfl rfl ?_
  have hO := St.start hS
  refine W.seq ?_
  refine W.region ?_
  refine WL.val (x_assign (.slice none 0 0) rfl) ?_
  refine WL.nil ?_
  refine W.seq ?_
  refine W.seq ?_
  refine W.region ?_
  refine WL.val (x_move (.slice A1_ p0.length c1_) rfl) ?_
  refine WL.val (x_eqlnil Try.underlying23 rfl rfl) ?_
  refine WL.nil ?_
  refine W.cond A1_.isNone rfl (fun hb => ?_) (fun hb => ?_)
  · have hx := h1_.isNone hb
    subst hx
    refine W.seq ?_
    refine W.region ?_
    refine WL.val (x_assign (.slice none 0 0) rfl) ?_
    refine WL.nil ?_
    refine W.ret ?_
    have hO := hO.nilRowT (α := LinkFrame) 0 none 50 eLinkFrame
    exact ⟨[_], ⟨rfl, trivial⟩, H0, ol [(0, _)], ⟨_, _, _, rfl, Rows.nil, rfl⟩, hO.row0 0 rfl⟩
  · refine W.skip ?_
    refine W.seq ?_
    refine W.region ?_
    refine o_litT (en := eLinkFrame) 0 [] ([] : List LinkFrame) hO sli23 trivial rfl rfl rfl ?_
    intro g cs w hr hO
    refine WL.val (x_move (.slice A1_ p0.length c1_) rfl) ?_
    obtain ⟨ce, hs, hr2⟩ := RS.src h1_ hO
    have hm1 : (bif lim (([] : List LinkFrame).length + p0.length) then some () else none) = some () := by simp [hl]
    refine o_appT (en := eLinkFrame) (xs := ([] : List LinkFrame)) (ys := p0) 0 hO rfl hr rfl rfl hs hr2 sli23 rfl rfl Try.underlying23 hm1 ?_
    intro A c cs w hr hO hm1
    refine WL.val (x_assign (.slice A (([] : List LinkFrame) ++ p0).length c) rfl) ?_
    refine WL.nil ?_
    refine W.ret ?_
    exact ⟨[_], ⟨rfl, trivial⟩, H0, ol [(0, _)], ⟨_, _, _, rfl, hr, rfl⟩, hO.row0 0 rfl⟩

theorem link_Told_1_ok {w0 : World} {H0 : IHeap} (hS : Sub H0 w0) {p0 : LinkFrame} {q_0 : Int}  {a1_ : Addr} (h1_ : At (eInt .i64) H0 a1_ q_0) {res : Bool} (hm0 : link_Told_1 p0 q_0 = some res) :
    Ok Try.prog 23 [(.agg ([(.int .i64 p0.Seq), (vs p0.Text)] : List Value).toArray), (.pointer (some a1_))].toArray w0 H0 (fun H' v => v = (.bool res)) := by
  unfold link_Told_1 at hm0
  refine ok_of_W Try.func23 rfl Try.ntmps23 (ts := [3]) rfl rfl rfl ?_
  have hO := St.start hS
  refine W.seq ?_
  refine W.region ?_
  refine o_box 0 [(.int .i64 p0.Seq), (vs p0.Text)] hO rfl ?_
  intro g1 w2 hO
  refine WL.val (x_assign (.bool false) rfl) ?_
  refine WL.nil ?_
  refine W.seq ?_
  refine W.region ?_
  refine WL.val (x_fa rfl fo50_0) ?_
  refine WL.val (x_ld 0 (.int .i64 p0.Seq) hO rfl rfl rfl one3) ?_
  refine WL.val (x_ldc rfl (h1_.int _ hO.sub) one3) ?_
  refine WL.val (x_eql rfl rfl) ?_
  refine WL.val (x_assign (.bool (p0.Seq == q_0)) rfl) ?_
  refine WL.nil ?_
  refine W.ret ?_
  obtain rfl := Option.some.inj hm0
  exact ⟨H0, rfl, hO.done⟩

theorem slices_IndexFunc_link_Frame_link_Told_1_ok {w0 : World} {H0 : IHeap} (hS : Sub H0 w0) {p0 : List LinkFrame} {q1_0 : Int}  {A1_ : Option Addr} {c1_ : Nat} {a2_ : Addr} (h1_ : RS eLinkFrame H0 A1_ c1_ p0) (h2_ : At (eInt .i64) H0 a2_ q1_0) {res : Int} (hm0 : slices_IndexFunc_link_Frame_link_Told_1 p0 q1_0 = some res) :
    Ok Try.prog 28 [(.slice A1_ p0.length c1_), (.func (.func 23) #[] ([(.pointer (some a2_))] : List Value).toArray)].toArray w0 H0 (fun H' v => v = (.int .i64 res)) := by
  unfold slices_IndexFunc_link_Frame_link_Told_1 at hm0
  refine ok_of_W Try.func28 rfl Try.ntmps28 (ts := [4]) rfl rfl rfl ?_
  have hO := St.start hS
  refine W.seq ?_
  refine W.region ?_
  refine WL.val (x_assign (.int .i64 0) rfl) ?_
  refine WL.nil ?_
  refine W.seq ?_
  refine W.seq ?_
  refine W.region ?_
  refine WL.val (x_move (.slice A1_ p0.length c1_) rfl) ?_
  refine WL.val (x_len rfl Try.underlying23) ?_
  refine WL.val (x_move (.int .i64 0) rfl) ?_
  refine WL.nil ?_
  obtain ⟨o1, hm1, hm0⟩ := bindSome hm0
  have hO := hO.pick [] trivial
  refine W.blockLoop (fun r w => ∃ (i4 : Nat) (H2 : IHeap), .out () = o1 ∧ Le H0 H2 ∧ St w0 H0 [] H2 (ol []) w) (fun k r w => ∃ (i4 : Nat) (rest5 : List LinkFrame) (H2 : IHeap), k = rest5.length ∧ List.drop i4 p0 = rest5 ∧ slices_IndexFunc_link_Frame_link_Told_1_l1 q1_0 rest5 i4 = some o1 ∧ Le H0 H2 ∧ St w0 H0 [] H2 (ol []) w ∧ r 0 = (.slice A1_ p0.length c1_) ∧ r 1 = (.func (.func 23) #[] ([(.pointer (some a2_))] : List Value).toArray) ∧ r 7 = (.int .i64 (p0.length : Int)) ∧ r 8 = (.int .i64 (i4 : Int))) (List.length p0) ?_ ?_ ?_
  · exact ⟨0, _, _, rfl, rfl, hm1, Le.refl _, hO, rfl, rfl, rfl, rfl⟩
  ·
    intro k r w
    rintro ⟨i4, rest5, H2, rfl, hd7, hm1, le3, hO, f0_1, f1_1, f7_1, f8_1⟩
    cases rest5 with
    | nil =>
      rw [slices_IndexFunc_link_Frame_link_Told_1_l1] at hm1
      have hlt := drop_nil hd7
      refine W.seq ?_
      refine W.region ?_
      refine WL.val (x_lss f8_1 f7_1) ?_
      refine WL.nil ?_
      refine W.seq ?_
      refine W.cond_f (kb rfl hlt) ?_
      refine W.exit _ rfl ?_
      obtain rfl := Option.some.inj hm1
      exact ⟨i4, H2, rfl, le3, hO.pick _ trivial⟩
    | cons x6 rest5 =>
      rw [slices_IndexFunc_link_Frame_link_Told_1_l1] at hm1
      have hlt := drop_lt hd7
      have hnx := drop_next hd7
      have hinc := inc_len hlt h1_.1 h1_.2.1
      refine W.seq ?_
      refine W.region ?_
      refine WL.val (x_lss f8_1 f7_1) ?_
      refine WL.nil ?_
      refine W.seq ?_
      refine W.cond_t (kb rfl hlt) ?_
      refine W.skip ?_
      refine W.seq ?_
      refine W.block ?_
      refine W.seq ?_
      refine W.region ?_
      refine WL.val (x_move (.int .i64 (i4 : Int)) f8_1) ?_
      refine WL.val (x_assign (.int .i64 (i4 : Int)) rfl) ?_
      refine WL.nil ?_
      refine W.seq ?_
      refine W.region ?_
      refine WL.val (x_move (.func (.func 23) #[] ([(.pointer (some a2_))] : List Value).toArray) f1_1) ?_
      refine WL.val (x_move (.slice A1_ p0.length c1_) f0_1) ?_
      refine WL.val (x_move (.int .i64 (i4 : Int)) rfl) ?_
      obtain ⟨a8, h9, hA10, hin⟩ := RS.atR (h1_.up le3) hd7
      refine WL.val (x_ia (sA rfl hA10) rfl sle23 hin) ?_
      obtain ⟨cs11, hr12, hc13⟩ := At.agg h9
      obtain rfl := hr12
      refine WL.val (x_ldv rfl (hc13 _ _ _ hO.sub agg50)) ?_
      obtain ⟨t14, ht15, hm1⟩ := bindSome hm1
      refine o_callv (args := [(.agg ([(.int .i64 x6.Seq), (vs x6.Text)] : List Value).toArray)]) (caps := [(.pointer (some a2_))]) hO rfl go23 (link_Told_1_ok hO.sub (h2_.up le3) ht15) rfl ?_
      rintro _ H16 w17 le18 rfl hO
      refine WL.nil ?_
      refine W.test rfl hm1 ?_ ?_
      · intro hb19 hm1
        refine W.seq ?_
        refine W.region ?_
        refine WL.val (x_move (.int .i64 (i4 : Int)) rfl) ?_
        refine WL.val (x_assign (.int .i64 (i4 : Int)) rfl) ?_
        refine WL.nil ?_
        refine W.ret ?_
        obtain rfl := Option.some.inj hm1
        dsimp only at hm0
        obtain rfl := Option.some.inj hm0
        exact ⟨H16, rfl, hO.done⟩
      · intro hb19 hm1
        refine W.skip ?_
        refine W.region ?_
        refine WL.val (x_add f8_1 rfl) ?_
        refine WL.val (x_move (.int .i64 (i64w ((i4 : Int) + 1))) rfl) ?_
        refine WL.nil ?_
        exact ⟨_, Nat.lt_succ_self _, i4 + 1, rest5, H16, rfl, hnx, hm1, (le3.trans le18), hO.pick _ trivial, f0_1, f1_1, f7_1, (incv hinc)⟩
  · intro r w
    rintro ⟨i22, H20, rfl, le21, hO⟩
    dsimp only at hm0
    refine W.seq ?_
    refine W.region ?_
    refine WL.val (x_assign (.int .i64 (-1)) rfl) ?_
    refine WL.nil ?_
    refine W.ret ?_
    obtain rfl := Option.some.inj hm0
    exact ⟨H20, rfl, hO.done⟩

theorem slices_DeleteFunc_link_Frame_link_Told_1_ok {w0 : World} {H0 : IHeap} {p0 : List LinkFrame} {q1_0 : Int}  {A1_ : Option Addr} {c1_ : Nat} {a2_ : Addr} {M : List Nat} {cells_ : List Value} (hO : St w0 H0 M H0 (ol [(0, .row A1_ c1_ 50 eLinkFrame.size p0.length cells_)]) w0) (h1_ : Rows eLinkFrame H0 cells_ p0) (h2_ : At (eInt .i64) H0 a2_ q1_0) {res : (List LinkFrame)} (hm0 : slices_DeleteFunc_link_Frame_link_Told_1 p0 q1_0 = some res) :
    OkM Try.prog 22 [(.slice A1_ p0.length c1_), (.func (.func 23) #[] ([(.pointer (some a2_))] : List Value).toArray)].toArray w0 H0 M (fun H' O' v => ∃ (A : Option Addr) (c : Nat) (cs : List Value), v = .slice A res.length c ∧ Rows eLinkFrame H' cs res ∧ O' 0 = some (.row A c 50 eLinkFrame.size res.length cs)) := by
  unfold slices_DeleteFunc_link_Frame_link_Told_1 at hm0
  refine (okM_of_W Try.func22 rfl Try.ntmps22 (rs := [.tmp 4]) rfl rfl ?_)
  refine W.seq ?_
  refine W.region ?_
  refine WL.val (x_assign (.slice none 0 0) rfl) ?_
  refine WL.nil ?_
  refine W.seq ?_
  refine W.region ?_
  refine WL.val (x_move (.slice A1_ p0.length c1_) rfl) ?_
  refine WL.val (x_move (.func (.func 23) #[] ([(.pointer (some a2_))] : List Value).toArray) rfl) ?_
  obtain ⟨t1, ht2, hm0⟩ := bindSome hm0
  refine o_callRO (u := (.int .i64 t1)) (args := [(.slice A1_ p0.length c1_), (.func (.func 23) #[] ([(.pointer (some a2_))] : List Value).toArray)]) 0 hO rfl rfl rfl h1_ go28 (fun H1_ l1_ h1_ s1_ => slices_IndexFunc_link_Frame_link_Told_1_ok s1_ h1_ (h2_.up l1_) ht2) rfl ?_
  intro H3 w4 le5 hO
  refine WL.val (x_assign (.int .i64 t1) rfl) ?_
  refine WL.nil ?_
  refine W.seq ?_
  refine W.seq ?_
  refine W.region ?_
  refine WL.val (x_move (.int .i64 t1) rfl) ?_
  refine WL.val (x_eql rfl rfl) ?_
  refine WL.nil ?_
  refine W.test rfl hm0 ?_ ?_
  · intro hb6 hm0
    refine W.seq ?_
    refine W.region ?_
    refine WL.val (x_move (.slice A1_ p0.length c1_) rfl) ?_
    refine WL.val (x_assign (.slice A1_ p0.length c1_) rfl) ?_
    refine WL.nil ?_
    refine W.ret ?_
    obtain rfl := Option.some.inj hm0
    exact ⟨[_], ⟨rfl, trivial⟩, H3, ol [(0, _)], ⟨_, _, _, rfl, (h1_.up le5), rfl⟩, hO.row0 0 rfl⟩
  · intro hb6 hm0
    refine W.skip ?_
    refine W.seq ?_
    refine W.seq ?_
    refine W.region ?_
    refine WL.val (x_move (.int .i64 t1) rfl) ?_
    refine WL.val (x_add rfl rfl) ?_
    refine WL.val (x_assign (.int .i64 (i64w (t1 + 1))) rfl) ?_
    refine WL.nil ?_
    obtain ⟨o7, hm1, hm0⟩ := bindSome hm0
    have hO := hO.pick [(0, .row A1_ c1_ 50 eLinkFrame.size p0.length cells_)] ⟨rfl, trivial⟩
    refine W.blockLoop (fun r w => ∃ (v13 : List LinkFrame) (A14 : Option Addr) (c15 : Nat) (cs16 : List Value) (v18 : Int) (v19 : Int) (H8 : IHeap), (v13, v18, v19) = o7 ∧ Le H3 H8 ∧ St w0 H0 M H8 (ol [(0, .row A14 c15 50 eLinkFrame.size v13.length cs16)]) w ∧ r 0 = (.slice A14 v13.length c15) ∧ r 5 = (.int .i64 v18) ∧ Rows eLinkFrame H8 cs16 v13) (fun k r w => ∃ (rest11 : Nat) (v13 : List LinkFrame) (A14 : Option Addr) (c15 : Nat) (cs16 : List Value) (v18 : Int) (v19 : Int) (H8 : IHeap), rest11 = k ∧ slices_DeleteFunc_link_Frame_link_Told_1_l1 q1_0 rest11 v13 v18 v19 = some o7 ∧ Le H3 H8 ∧ St w0 H0 M H8 (ol [(0, .row A14 c15 50 eLinkFrame.size v13.length cs16)]) w ∧ r 0 = (.slice A14 v13.length c15) ∧ r 1 = (.func (.func 23) #[] ([(.pointer (some a2_))] : List Value).toArray) ∧ r 5 = (.int .i64 v18) ∧ r 6 = (.int .i64 v19) ∧ Rows eLinkFrame H8 cs16 v13) FUEL ?_ ?_ ?_
    · exact ⟨_, p0, A1_, c1_, cells_, t1, i64w (t1 + 1), _, rfl, hm1, Le.refl _, hO, rfl, rfl, rfl, rfl, (h1_.up le5)⟩
    ·
      intro k r w
      rintro ⟨rest11, v13, A14, c15, cs16, v18, v19, H8, rfl, hm1, le9, hO, f0_1, f1_1, f5_1, f6_1, h17⟩
      cases rest11 with
      | zero => rw [slices_DeleteFunc_link_Frame_link_Told_1_l1] at hm1; cases hm1
      | succ rest11 =>
        rw [slices_DeleteFunc_link_Frame_link_Told_1_l1] at hm1
        refine W.seq ?_
        refine W.seq ?_
        refine W.region ?_
        refine WL.val (x_move (.int .i64 v19) f6_1) ?_
        refine WL.val (x_move (.slice A14 v13.length c15) f0_1) ?_
        refine WL.val (x_len rfl Try.underlying23) ?_
        refine WL.val (x_lss rfl rfl) ?_
        refine WL.nil ?_
        refine W.test rfl hm1 ?_ ?_
        · intro hb20 hm1
          refine W.skip ?_
          refine W.seq ?_
          refine W.block ?_
          refine W.seq ?_
          refine W.region ?_
          refine WL.val (x_move (.slice A14 v13.length c15) f0_1) ?_
          refine WL.val (x_move (.int .i64 v19) f6_1) ?_
          obtain ⟨hin21, hm1⟩ := chk hm1
          obtain ⟨hc22, g23, o24, hA25⟩ := hO.rowA (k := 0) rfl hin21
          refine WL.val (x_ia (sA rfl hA25) rfl sle23 hin21) ?_
          obtain ⟨cs26, hr27, hc28⟩ := row_elem (en := eLinkFrame) (k := 0) hO rfl h17 hc22 hA25 (at0_some hin21)
          obtain rfl := hr27
          refine WL.val (x_ldv rfl (run_loadVar_agg agg50 rfl (fun j v hj => by rw [addr_add, addr_add, Nat.add_assoc]; exact hc28 j v hj))) ?_
          refine o_alloc 1 _ [(.int .i64 0), (vs [])] zer50 hO rfl ?_
          intro g29 w30 hO
          refine o_sts 1 [(.int .i64 ((at0 v13 v19).Seq)), (vs ((at0 v13 v19).Text))] hO rfl rfl rfl siz50 rfl (Nat.le_of_ble_eq_true rfl) (by simp [Value.oneCell', vs]) ?_
          intro w31 hO
          refine WL.nil ?_
          refine W.seq ?_
          refine W.region ?_
          refine WL.val (x_move (.func (.func 23) #[] ([(.pointer (some a2_))] : List Value).toArray) f1_1) ?_
          refine WL.val (x_lds 1 [(.int .i64 ((at0 v13 v19).Seq)), (vs ((at0 v13 v19).Text))] hO rfl rfl agg50 rfl rfl) ?_
          obtain ⟨t32, ht33, hm1⟩ := bindSome hm1
          refine o_callv (args := [(.agg ([(.int .i64 ((at0 v13 v19).Seq)), (vs ((at0 v13 v19).Text))] : List Value).toArray)]) (caps := [(.pointer (some a2_))]) hO rfl go23 (link_Told_1_ok hO.sub (h2_.up (le5.trans le9)) ht33) rfl ?_
          rintro _ H34 w35 le36 rfl hO
          refine WL.val (x_not rfl) ?_
          refine WL.nil ?_
          refine W.test rfl hm1 ?_ ?_
          · intro hb37 hm1
            refine W.seq ?_
            refine W.region ?_
            refine WL.val (x_move (.slice A14 v13.length c15) f0_1) ?_
            refine WL.val (x_move (.int .i64 v18) f5_1) ?_
            refine WL.val (x_lds 1 [(.int .i64 ((at0 v13 v19).Seq)), (vs ((at0 v13 v19).Text))] hO rfl rfl agg50 rfl rfl) ?_
            obtain ⟨hin38, hm1⟩ := chk hm1
            obtain ⟨hc39, g40, o41, hA42⟩ := hO.rowA (k := 0) rfl hin38
            refine WL.val (x_ia (sA rfl hA42) rfl sle23 hin38) ?_
            refine o_stRow (en := eLinkFrame) (z := (⟨(at0 v13 v19).Seq, (at0 v13 v19).Text⟩ : LinkFrame)) (k := 0) (.agg ([(.int .i64 ((at0 v13 v19).Seq)), (vs ((at0 v13 v19).Text))] : List Value).toArray) hO rfl (h17.up le36) hc39 hA42 hin38 rfl rfl rfl rfl siz50 ?_
            intro cs43 w44 hr45 hO
            refine WL.nil ?_
            refine W.region ?_
            refine WL.val (x_move (.int .i64 v18) f5_1) ?_
            refine WL.val (x_add rfl rfl) ?_
            refine WL.val (x_assign (.int .i64 (i64w (v18 + 1))) rfl) ?_
            refine WL.nil ?_
            refine W.region ?_
            refine WL.val (x_move (.int .i64 v19) f6_1) ?_
            refine WL.val (x_add rfl rfl) ?_
            refine WL.val (x_assign (.int .i64 (i64w (v19 + 1))) rfl) ?_
            refine WL.nil ?_
            exact ⟨_, Nat.lt_succ_self _, rest11, (List.set v13 (Int.toNat v18) (⟨(at0 v13 v19).Seq, (at0 v13 v19).Text⟩ : LinkFrame)), A14, c15, cs43, i64w (v18 + 1), i64w (v19 + 1), H34, rfl, hm1, (le9.trans le36), hO.pick _ ⟨rfl, trivial⟩, (setlen f0_1), f1_1, rfl, rfl, hr45⟩
          · intro hb37 hm1
            refine W.skip ?_
            refine W.region ?_
            refine WL.val (x_move (.int .i64 v19) f6_1) ?_
            refine WL.val (x_add rfl rfl) ?_
            refine WL.val (x_assign (.int .i64 (i64w (v19 + 1))) rfl) ?_
            refine WL.nil ?_
            exact ⟨_, Nat.lt_succ_self _, rest11, v13, A14, c15, cs16, v18, i64w (v19 + 1), H34, rfl, hm1, (le9.trans le36), hO.pick _ ⟨rfl, trivial⟩, f0_1, f1_1, f5_1, rfl, (h17.up le36)⟩
        · intro hb20 hm1
          refine W.exit _ rfl ?_
          obtain rfl := Option.some.inj hm1
          exact ⟨v13, A14, c15, cs16, v18, v19, H8, rfl, le9, hO.pick _ ⟨rfl, trivial⟩, f0_1, f5_1, h17⟩
    · intro r w
      rintro ⟨v48, A49, c50, cs52, v53, v54, H46, rfl, le47, hO, f56, f57, h51⟩
      dsimp only at hm0
      refine W.seq ?_
      refine W.region ?_
      refine WL.val (x_move (.slice A49 v48.length c50) f56) ?_
      refine WL.val (x_move (.int .i64 v53) f57) ?_
      obtain ⟨hok58, hm0⟩ := chk hm0
      have hle59 := row_le (k := 0) hO rfl
      refine WL.val (x_sll (xs := v48) sle23 rfl hle59 rfl hok58) ?_
      refine o_clear (en := eLinkFrame) (xs := v48) (b := v53) 0 hO rfl h51 rfl sli23 rfl hok58 ?_
      intro cs60 w61 hr62 hO
      refine WL.nil ?_
      refine W.seq ?_
      refine W.region ?_
      refine WL.val (x_move (.slice A49 v48.length c50) f56) ?_
      refine WL.val (x_move (.int .i64 v53) f57) ?_
      refine WL.val (x_slTake (xs := v48) (k := 0) hO rfl sle23 rfl hle59 rfl (cutOk0 hok58)) ?_
      refine WL.val (x_assign (.slice A49 (lcut v48 0 v53).length c50) rfl) ?_
      refine WL.nil ?_
      refine W.ret ?_
      obtain rfl := Option.some.inj hm0
      exact ⟨[_], ⟨rfl, trivial⟩, H46, ol [(0, _)], ⟨_, _, _, rfl, hr62, rfl⟩, hO.row0 0 rfl⟩

end Go.Sw

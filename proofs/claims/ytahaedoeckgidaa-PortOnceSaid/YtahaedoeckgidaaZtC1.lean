/- The calls compute the mirrors. -/
import Derived.Test.YtahaedoeckgidaaZtC0
set_option linter.unusedVariables false
set_option linter.unusedSimpArgs false
set_option maxRecDepth 100000
namespace Go.Sw
open Go.Proofs

theorem link_Told_ok {w0 : World} {H0 : IHeap} (hS : Sub H0 w0) {p0 : LinkLink} {p1 : Int}  {A1_ : Option Addr} {c1_ : Nat} (h1_ : RS eLinkFrame H0 A1_ c1_ p0.Queue) {res : LinkLink} (hm0 : link_Told p0 p1 = some res) :
    Ok Try.prog 16 [(.agg ([(.int .i64 p0.Next), (.slice A1_ p0.Queue.length c1_)] : List Value).toArray), (.int .i64 p1)].toArray w0 H0 (fun H' v => ∃ (A1 : Option Addr) (c1 : Nat), v = (.agg ([(.int .i64 res.Next), (.slice A1 res.Queue.length c1)] : List Value).toArray) ∧ RS eLinkFrame H' A1 c1 res.Queue) := by
  unfold link_Told at hm0
  refine OkO.ok (okO_of_W Try.func16 rfl Try.ntmps16 (rs := [.cell 4 25]) rfl rfl ?_)
  have hO := St.start hS
  refine W.seq ?_
  refine W.region ?_
  refine o_box 0 [(.int .i64 p0.Next), (.slice A1_ p0.Queue.length c1_)] hO rfl ?_
  intro g1 w2 hO
  refine o_box 1 [(.int .i64 p1)] hO rfl ?_
  intro g3 w4 hO
  refine o_alloc 2 _ [(.int .i64 0), (.slice none 0 0)] zer25 hO rfl ?_
  intro g5 w6 hO
  refine WL.nil ?_
  refine W.seq ?_
  refine W.region ?_
  refine WL.val (x_fa rfl fo25_1) ?_
  refine WL.val (x_ld 0 (.slice A1_ p0.Queue.length c1_) hO rfl rfl rfl one23) ?_
  obtain ⟨t7, ht8, hm0⟩ := bindSome hm0
  refine o_callO hO go21 (slices_Clone_link_Frame_ok hO.sub h1_ ht8) rfl ?_
  rintro _ H9 O17 w10 le11 ⟨A12, c13, cs14, rfl, hr15, hk16⟩ hO'
  have hO := hO.callRow hO' 3 0 _ hk16; clear hO'
  obtain ⟨H18, le19, h20, hO⟩ := hO.freezeBlk (en := (eInt .i64)) (x := p1) 1 rfl rfl
  refine WL.val (x_fun [(.pointer (some (⟨g3, 0, none⟩)))] rfl) ?_
  obtain ⟨t21, ht22, hm0⟩ := bindSome hm0
  refine o_callM (args := [(.slice A12 t7.length c13), (.func (.func 23) #[] ([(.pointer (some (⟨g3, 0, none⟩)))] : List Value).toArray)]) 3 hO rfl go22 (slices_DeleteFunc_link_Frame_link_Told_1_ok (hO.enter 3 rfl) (hr15.up le19) h20 ht22) rfl ?_
  rintro _ H23 O26 w24 le25 ⟨A27, c28, cs29, rfl, hr30, hk31⟩ hO; rw [hk31] at hO
  refine WL.val (x_fa rfl fo25_1) ?_
  refine o_st 0 (.slice A27 t21.length c28) hO rfl rfl rfl rfl siz23 rfl ?_
  intro w33 hO
  refine WL.nil ?_
  refine W.seq ?_
  refine W.region ?_
  refine WL.val (x_lds 0 [(.int .i64 p0.Next), (.slice A27 t21.length c28)] hO rfl rfl agg25 rfl rfl) ?_
  refine o_sts 2 [(.int .i64 p0.Next), (.slice A27 t21.length c28)] hO rfl rfl rfl siz25 rfl (Nat.le_of_ble_eq_true rfl) (by simp [Value.oneCell', vs]) ?_
  intro w34 hO
  refine WL.nil ?_
  refine W.ret ?_
  obtain ⟨H35, le36, h37, hO⟩ := hO.freezeRow (en := eLinkFrame) 3 rfl rfl rfl hr30
  obtain rfl := Option.some.inj hm0
  exact ⟨[(.agg ([(.int .i64 p0.Next), (.slice A27 t21.length c28)] : List Value).toArray)], ⟨⟨_, rfl, hO.ldBlk 2 rfl agg25 rfl rfl⟩, trivial⟩, H35, _, ⟨A27, c28, rfl, h37⟩, hO⟩

theorem window_Right_ok {w0 : World} {H0 : IHeap} (hS : Sub H0 w0) {p0 : WindowWindow}  {A1_ : Option Addr} {c1_ : Nat} (h1_ : RS (eInt .i64) H0 A1_ c1_ p0.Seen) {res : Bool} (hm0 : window_Right p0 = some res) :
    Ok Try.prog 24 [(.agg ([(.int .i64 p0.Low), (.slice A1_ p0.Seen.length c1_)] : List Value).toArray)].toArray w0 H0 (fun H' v => v = (.bool res)) := by
  unfold window_Right at hm0
  refine ok_of_W Try.func24 rfl Try.ntmps24 (ts := [2]) rfl rfl rfl ?_
  have hO := St.start hS
  refine W.seq ?_
  refine W.region ?_
  refine o_box 0 [(.int .i64 p0.Low), (.slice A1_ p0.Seen.length c1_)] hO rfl ?_
  intro g1 w2 hO
  refine WL.val (x_assign (.bool false) rfl) ?_
  refine WL.nil ?_
  refine W.seq ?_
  refine W.region ?_
  refine WL.val (x_fa rfl fo28_0) ?_
  refine WL.val (x_ld 0 (.int .i64 p0.Low) hO rfl rfl rfl one3) ?_
  refine WL.val (x_sub rfl rfl) ?_
  refine WL.val (x_assign (.int .i64 (i64w (p0.Low - 1))) rfl) ?_
  refine WL.nil ?_
  refine W.seq ?_
  refine W.seq ?_
  refine W.region ?_
  refine WL.val (x_fa rfl fo28_1) ?_
  refine WL.val (x_ld 0 (.slice A1_ p0.Seen.length c1_) hO rfl rfl rfl one26) ?_
  refine WL.val (x_len rfl Try.underlying26) ?_
  refine WL.val (x_move (.int .i64 0) rfl) ?_
  refine WL.nil ?_
  obtain ⟨o3, hm1, hm0⟩ := bindSome hm0
  have hO := hO.pick [(0, .blk g1 [(.int .i64 p0.Low), (.slice A1_ p0.Seen.length c1_)] 28)] ⟨rfl, trivial⟩
  refine W.blockLoop (fun r w => ∃ (v9 : Int) (i6 : Nat) (H4 : IHeap), .out v9 = o3 ∧ Le H0 H4 ∧ St w0 H0 [] H4 (ol [(0, .blk g1 [(.int .i64 p0.Low), (.slice A1_ p0.Seen.length c1_)] 28)]) w ∧ r 1 = (.pointer (some ⟨g1, 0, none⟩))) (fun k r w => ∃ (i6 : Nat) (rest7 : List Int) (v9 : Int) (H4 : IHeap), k = rest7.length ∧ List.drop i6 p0.Seen = rest7 ∧ window_Right_l1 rest7 i6 v9 = some o3 ∧ Le H0 H4 ∧ St w0 H0 [] H4 (ol [(0, .blk g1 [(.int .i64 p0.Low), (.slice A1_ p0.Seen.length c1_)] 28)]) w ∧ r 1 = (.pointer (some ⟨g1, 0, none⟩)) ∧ r 3 = (.int .i64 v9) ∧ r 10 = (.slice A1_ p0.Seen.length c1_) ∧ r 11 = (.int .i64 (p0.Seen.length : Int)) ∧ r 12 = (.int .i64 (i6 : Int))) (List.length p0.Seen) ?_ ?_ ?_
  · exact ⟨0, _, i64w (p0.Low - 1), _, rfl, rfl, hm1, Le.refl _, hO, rfl, rfl, rfl, rfl, rfl⟩
  ·
    intro k r w
    rintro ⟨i6, rest7, v9, H4, rfl, hd10, hm1, le5, hO, f1_1, f3_1, f10_1, f11_1, f12_1⟩
    cases rest7 with
    | nil =>
      rw [window_Right_l1] at hm1
      have hlt := drop_nil hd10
      refine W.seq ?_
      refine W.region ?_
      refine WL.val (x_lss f12_1 f11_1) ?_
      refine WL.nil ?_
      refine W.seq ?_
      refine W.cond_f (kb rfl hlt) ?_
      refine W.exit _ rfl ?_
      obtain rfl := Option.some.inj hm1
      exact ⟨v9, i6, H4, rfl, le5, hO.pick _ ⟨rfl, trivial⟩, f1_1⟩
    | cons x8 rest7 =>
      rw [window_Right_l1] at hm1
      have hlt := drop_lt hd10
      have hnx := drop_next hd10
      have hinc := inc_len hlt h1_.1 h1_.2.1
      refine W.seq ?_
      refine W.region ?_
      refine WL.val (x_lss f12_1 f11_1) ?_
      refine WL.nil ?_
      refine W.seq ?_
      refine W.cond_t (kb rfl hlt) ?_
      refine W.skip ?_
      refine W.seq ?_
      refine W.block ?_
      refine W.seq ?_
      refine W.region ?_
      obtain ⟨a11, h12, hA13, hin⟩ := RS.atR (h1_.up le5) hd10
      refine WL.val (x_ia (sA f10_1 hA13) f12_1 sle26 hin) ?_
      refine WL.val (x_ldc rfl (h12.int _ hO.sub) one3) ?_
      refine WL.val (x_assign (.int .i64 x8) rfl) ?_
      refine WL.nil ?_
      refine W.seq ?_
      refine W.seq ?_
      refine W.region ?_
      refine WL.val (x_move (.int .i64 x8) rfl) ?_
      refine WL.val (x_move (.int .i64 v9) f3_1) ?_
      refine WL.val (x_leq rfl rfl) ?_
      refine WL.val (x_move (.bool (decide (x8 ≤ v9))) rfl) ?_
      refine WL.gval rfl rfl (fun hb => x_move (.int .i64 x8) rfl) ?_
      refine WL.gval rfl rfl (fun hb => x_gtr (gv hb) rfl) ?_
      refine WL.val (x_pick rfl (.bool ((decide (x8 ≤ v9)) || (decide (2147483647 < x8)))) pick_or) ?_
      refine WL.nil ?_
      refine W.test rfl hm1 ?_ ?_
      · intro hb14 hm1
        refine W.seq ?_
        refine W.region ?_
        refine WL.val (x_assign (.bool false) rfl) ?_
        refine WL.nil ?_
        refine W.ret ?_
        obtain rfl := Option.some.inj hm1
        dsimp only at hm0
        obtain rfl := Option.some.inj hm0
        exact ⟨H4, rfl, hO.done⟩
      · intro hb14 hm1
        refine W.skip ?_
        refine W.region ?_
        refine WL.val (x_move (.int .i64 x8) rfl) ?_
        refine WL.val (x_assign (.int .i64 x8) rfl) ?_
        refine WL.nil ?_
        refine W.region ?_
        refine WL.val (x_add f12_1 rfl) ?_
        refine WL.val (x_move (.int .i64 (i64w ((i6 : Int) + 1))) rfl) ?_
        refine WL.nil ?_
        exact ⟨_, Nat.lt_succ_self _, i6 + 1, rest7, x8, H4, rfl, hnx, hm1, le5, hO.pick _ ⟨rfl, trivial⟩, f1_1, rfl, f10_1, f11_1, (incv hinc)⟩
  · intro r w
    rintro ⟨v17, i18, H15, rfl, le16, hO, f19⟩
    dsimp only at hm0
    refine W.seq ?_
    refine W.region ?_
    refine WL.val (x_fa f19 fo28_0) ?_
    refine WL.val (x_ld 0 (.int .i64 p0.Low) hO rfl rfl rfl one3) ?_
    refine WL.val (x_geq rfl rfl) ?_
    refine WL.val (x_move (.bool (decide (0 ≤ p0.Low))) rfl) ?_
    refine WL.gval rfl rfl (fun hb => x_fa f19 fo28_0) ?_
    refine WL.gval rfl rfl (fun hb => x_ld 0 (.int .i64 p0.Low) hO rfl (gv hb) rfl one3) ?_
    refine WL.gval rfl rfl (fun hb => x_leq (gv hb) rfl) ?_
    refine WL.val (x_pick rfl (.bool ((decide (0 ≤ p0.Low)) && (decide (p0.Low ≤ 2147483647)))) pick_and) ?_
    refine WL.val (x_move (.bool ((decide (0 ≤ p0.Low)) && (decide (p0.Low ≤ 2147483647)))) rfl) ?_
    refine WL.gval rfl rfl (fun hb => x_fa f19 fo28_1) ?_
    refine WL.gval rfl rfl (fun hb => x_ld 0 (.slice A1_ p0.Seen.length c1_) hO rfl (gv hb) rfl one26) ?_
    refine WL.gval rfl rfl (fun hb => x_len (gv hb) Try.underlying26) ?_
    refine WL.gval rfl rfl (fun hb => x_leq (gv hb) rfl) ?_
    refine WL.val (x_pick rfl (.bool (((decide (0 ≤ p0.Low)) && (decide (p0.Low ≤ 2147483647))) && (decide ((p0.Seen.length : Int) ≤ 32)))) pick_and) ?_
    refine WL.val (x_assign (.bool (((decide (0 ≤ p0.Low)) && (decide (p0.Low ≤ 2147483647))) && (decide ((p0.Seen.length : Int) ≤ 32)))) rfl) ?_
    refine WL.nil ?_
    refine W.ret ?_
    obtain rfl := Option.some.inj hm0
    exact ⟨H15, rfl, hO.done⟩

theorem slices_Index_int_ok {w0 : World} {H0 : IHeap} (hS : Sub H0 w0) {p0 : List Int} {p1 : Int}  {A1_ : Option Addr} {c1_ : Nat} (h1_ : RS (eInt .i64) H0 A1_ c1_ p0) {res : Int} (hm0 : slices_Index_int p0 p1 = some res) :
    Ok Try.prog 29 [(.slice A1_ p0.length c1_), (.int .i64 p1)].toArray w0 H0 (fun H' v => v = (.int .i64 res)) := by
  unfold slices_Index_int at hm0
  refine ok_of_W Try.func29 rfl Try.ntmps29 (ts := [4]) rfl rfl rfl ?_
  have hO := St.start hS
  refine W.seq ?_
  refine W.region ?_
  refine WL.val (x_assign (.int .i64 0) rfl) ?_
  refine WL.nil ?_
  refine W.seq ?_
  refine W.seq ?_
  refine W.region ?_
  refine WL.val (x_move (.slice A1_ p0.length c1_) rfl) ?_
  refine WL.val (x_len rfl Try.underlying26) ?_
  refine WL.val (x_move (.int .i64 0) rfl) ?_
  refine WL.nil ?_
  obtain ⟨o1, hm1, hm0⟩ := bindSome hm0
  have hO := hO.pick [] trivial
  refine W.blockLoop (fun r w => ∃ (i4 : Nat) (H2 : IHeap), .out () = o1 ∧ Le H0 H2 ∧ St w0 H0 [] H2 (ol []) w) (fun k r w => ∃ (i4 : Nat) (rest5 : List Int) (H2 : IHeap), k = rest5.length ∧ List.drop i4 p0 = rest5 ∧ slices_Index_int_l1 p1 rest5 i4 = some o1 ∧ Le H0 H2 ∧ St w0 H0 [] H2 (ol []) w ∧ r 0 = (.slice A1_ p0.length c1_) ∧ r 1 = (.int .i64 p1) ∧ r 7 = (.int .i64 (p0.length : Int)) ∧ r 8 = (.int .i64 (i4 : Int))) (List.length p0) ?_ ?_ ?_
  · exact ⟨0, _, _, rfl, rfl, hm1, Le.refl _, hO, rfl, rfl, rfl, rfl⟩
  ·
    intro k r w
    rintro ⟨i4, rest5, H2, rfl, hd7, hm1, le3, hO, f0_1, f1_1, f7_1, f8_1⟩
    cases rest5 with
    | nil =>
      rw [slices_Index_int_l1] at hm1
      have hlt := drop_nil hd7
      refine W.seq ?_
      refine W.region ?_
      refine WL.val (x_lss f8_1 f7_1) ?_
      refine WL.nil ?_
      refine W.seq ?_
      refine W.cond_f (kb rfl hlt) ?_
      refine W.exit _ rfl ?_
      obtain rfl := Option.some.inj hm1
      exact ⟨i4, H2, rfl, le3, hO.pick _ trivial⟩
    | cons x6 rest5 =>
      rw [slices_Index_int_l1] at hm1
      have hlt := drop_lt hd7
      have hnx := drop_next hd7
      have hinc := inc_len hlt h1_.1 h1_.2.1
      refine W.seq ?_
      refine W.region ?_
      refine WL.val (x_lss f8_1 f7_1) ?_
      refine WL.nil ?_
      refine W.seq ?_
      refine W.cond_t (kb rfl hlt) ?_
      refine W.skip ?_
      refine W.seq ?_
      refine W.block ?_
      refine W.seq ?_
      refine W.region ?_
      refine WL.val (x_move (.int .i64 (i4 : Int)) f8_1) ?_
      refine WL.val (x_assign (.int .i64 (i4 : Int)) rfl) ?_
      refine WL.nil ?_
      refine W.seq ?_
      refine W.region ?_
      refine WL.val (x_move (.int .i64 p1) f1_1) ?_
      refine WL.val (x_move (.slice A1_ p0.length c1_) f0_1) ?_
      refine WL.val (x_move (.int .i64 (i4 : Int)) rfl) ?_
      obtain ⟨a8, h9, hA10, hin⟩ := RS.atR (h1_.up le3) hd7
      refine WL.val (x_ia (sA rfl hA10) rfl sle26 hin) ?_
      refine WL.val (x_ldc rfl (h9.int _ hO.sub) one3) ?_
      refine WL.val (x_eql rfl rfl) ?_
      refine WL.nil ?_
      refine W.test rfl hm1 ?_ ?_
      · intro hb11 hm1
        refine W.seq ?_
        refine W.region ?_
        refine WL.val (x_move (.int .i64 (i4 : Int)) rfl) ?_
        refine WL.val (x_assign (.int .i64 (i4 : Int)) rfl) ?_
        refine WL.nil ?_
        refine W.ret ?_
        obtain rfl := Option.some.inj hm1
        dsimp only at hm0
        obtain rfl := Option.some.inj hm0
        exact ⟨H2, rfl, hO.done⟩
      · intro hb11 hm1
        refine W.skip ?_
        refine W.region ?_
        refine WL.val (x_add f8_1 rfl) ?_
        refine WL.val (x_move (.int .i64 (i64w ((i4 : Int) + 1))) rfl) ?_
        refine WL.nil ?_
        exact ⟨_, Nat.lt_succ_self _, i4 + 1, rest5, H2, rfl, hnx, hm1, le3, hO.pick _ trivial, f0_1, f1_1, f7_1, (incv hinc)⟩
  · intro r w
    rintro ⟨i14, H12, rfl, le13, hO⟩
    dsimp only at hm0
    refine W.seq ?_
    refine W.region ?_
    refine WL.val (x_assign (.int .i64 (-1)) rfl) ?_
    refine WL.nil ?_
    refine W.ret ?_
    obtain rfl := Option.some.inj hm0
    exact ⟨H12, rfl, hO.done⟩

theorem slices_Contains_int_ok {w0 : World} {H0 : IHeap} (hS : Sub H0 w0) {p0 : List Int} {p1 : Int}  {A1_ : Option Addr} {c1_ : Nat} (h1_ : RS (eInt .i64) H0 A1_ c1_ p0) {res : Bool} (hm0 : slices_Contains_int p0 p1 = some res) :
    Ok Try.prog 25 [(.slice A1_ p0.length c1_), (.int .i64 p1)].toArray w0 H0 (fun H' v => v = (.bool res)) := by
  unfold slices_Contains_int at hm0
  refine ok_of_W Try.func25 rfl Try.ntmps25 (ts := [4]) rfl rfl rfl ?_
  have hO := St.start hS
  refine W.seq ?_
  refine W.region ?_
  refine WL.val (x_assign (.bool false) rfl) ?_
  refine WL.nil ?_
  refine W.seq ?_
  refine W.region ?_
  refine WL.val (x_move (.slice A1_ p0.length c1_) rfl) ?_
  refine WL.val (x_move (.int .i64 p1) rfl) ?_
  obtain ⟨t1, ht2, hm0⟩ := bindSome hm0
  refine o_call hO go29 (slices_Index_int_ok hO.sub h1_ ht2) rfl ?_
  rintro _ H3 w4 le5 rfl hO
  refine WL.val (x_geq rfl rfl) ?_
  refine WL.val (x_assign (.bool (decide (0 ≤ t1))) rfl) ?_
  refine WL.nil ?_
  refine W.ret ?_
  obtain rfl := Option.some.inj hm0
  exact ⟨H3, rfl, hO.done⟩

theorem slices_Clone_int_ok {w0 : World} {H0 : IHeap} (hS : Sub H0 w0) {p0 : List Int} {A1_ : Option Addr} {c1_ : Nat} (h1_ : RS (eInt .i64) H0 A1_ c1_ p0) {res : List Int} (hm0 : slices_Clone_int p0 = some res) :
    OkO Try.prog 26 [(.slice A1_ p0.length c1_)].toArray w0 H0 (fun H' O' v => ∃ (A : Option Addr) (c : Nat) (cs : List Value), v = .slice A res.length c ∧ Rows (eInt .i64) H' cs res ∧ O' 0 = some (.row A c 3 (eInt .i64).size res.length cs)) := by
  obtain ⟨hl, hm0⟩ := chk hm0
  obtain rfl := Option.some.inj hm0
  refine okO_of_W Try.func26 rfl Try.ntmps26 (rs := [.tmp 2]) rfl rfl ?_
  have hO := St.start hS
  refine W.seq ?_
  refine W.region ?_
  refine WL.val (x_assign (.slice none 0 0) rfl) ?_
  refine WL.nil ?_
  refine W.seq ?_
  refine W.seq ?_
  refine W.region ?_
  refine WL.val (x_move (.slice A1_ p0.length c1_) rfl) ?_
  refine WL.val (x_eqlnil Try.underlying26 rfl rfl) ?_
  refine WL.nil ?_
  refine W.cond A1_.isNone rfl (fun hb => ?_) (fun hb => ?_)
  · have hx := h1_.isNone hb
    subst hx
    refine W.seq ?_
    refine W.region ?_
    refine WL.val (x_assign (.slice none 0 0) rfl) ?_
    refine WL.nil ?_
    refine W.ret ?_
    have hO := hO.nilRowT (α := Int) 0 none 3 (eInt .i64)
    exact ⟨[_], ⟨rfl, trivial⟩, H0, ol [(0, _)], ⟨_, _, _, rfl, Rows.nil, rfl⟩, hO.row0 0 rfl⟩
  · refine W.skip ?_
    refine W.seq ?_
    refine W.region ?_
    refine o_litT (en := (eInt .i64)) 0 [] ([] : List Int) hO sli26 trivial rfl rfl rfl ?_
    intro g cs w hr hO
    refine WL.val (x_move (.slice A1_ p0.length c1_) rfl) ?_
    obtain ⟨ce, hs, hr2⟩ := RS.src h1_ hO
    have hm1 : (bif lim (([] : List Int).length + p0.length) then some () else none) = some () := by simp [hl]
    refine o_appT (en := (eInt .i64)) (xs := ([] : List Int)) (ys := p0) 0 hO rfl hr rfl rfl hs hr2 sli26 rfl rfl Try.underlying26 hm1 ?_
    intro A c cs w hr hO hm1
    refine WL.val (x_assign (.slice A (([] : List Int) ++ p0).length c) rfl) ?_
    refine WL.nil ?_
    refine W.ret ?_
    exact ⟨[_], ⟨rfl, trivial⟩, H0, ol [(0, _)], ⟨_, _, _, rfl, hr, rfl⟩, hO.row0 0 rfl⟩

theorem window_Accept_ok {w0 : World} {H0 : IHeap} (hS : Sub H0 w0) {p0 : WindowWindow} {p1 : Int}  {A1_ : Option Addr} {c1_ : Nat} (h1_ : RS (eInt .i64) H0 A1_ c1_ p0.Seen) {res : WindowWindow × Bool} (hm0 : window_Accept p0 p1 = some res) :
    Ok Try.prog 17 [(.agg ([(.int .i64 p0.Low), (.slice A1_ p0.Seen.length c1_)] : List Value).toArray), (.int .i64 p1)].toArray w0 H0 (fun H' v => ∃ (A1 : Option Addr) (c1 : Nat), v = (.tuple ([(.agg ([(.int .i64 res.1.Low), (.slice A1 res.1.Seen.length c1)] : List Value).toArray), (.bool res.2)] : List Value).toArray) ∧ RS (eInt .i64) H' A1 c1 res.1.Seen) := by
  unfold window_Accept at hm0
  refine OkO.ok (okO_of_W Try.func17 rfl Try.ntmps17 (rs := [.cell 4 28, .tmp 5]) rfl rfl ?_)
  have hO := St.start hS
  refine W.seq ?_
  refine W.region ?_
  refine o_box 0 [(.int .i64 p0.Low), (.slice A1_ p0.Seen.length c1_)] hO rfl ?_
  intro g1 w2 hO
  refine o_alloc 1 _ [(.int .i64 0), (.slice none 0 0)] zer28 hO rfl ?_
  intro g3 w4 hO
  refine WL.val (x_assign (.bool false) rfl) ?_
  refine WL.nil ?_
  refine W.seq ?_
  refine W.seq ?_
  refine W.region ?_
  refine WL.val (x_lds 0 [(.int .i64 p0.Low), (.slice A1_ p0.Seen.length c1_)] hO rfl rfl agg28 rfl rfl) ?_
  obtain ⟨t5, ht6, hm0⟩ := bindSome hm0
  refine o_call hO go24 (window_Right_ok hO.sub h1_ ht6) rfl ?_
  rintro _ H7 w8 le9 rfl hO
  refine WL.val (x_not rfl) ?_
  refine WL.val (x_move (.bool (!t5)) rfl) ?_
  refine WL.gval rfl rfl (fun hb => x_move (.int .i64 p1) rfl) ?_
  refine WL.gval rfl rfl (fun hb => x_gtr (gv hb) rfl) ?_
  refine WL.val (x_pick rfl (.bool ((!t5) || (decide (2147483647 < p1)))) pick_or) ?_
  refine WL.val (x_move (.bool ((!t5) || (decide (2147483647 < p1)))) rfl) ?_
  refine WL.gval rfl rfl (fun hb => x_move (.int .i64 p1) rfl) ?_
  refine WL.gval rfl rfl (fun hb => x_fa rfl fo28_0) ?_
  refine WL.gval rfl rfl (fun hb => x_ld 0 (.int .i64 p0.Low) hO rfl (gv hb) rfl one3) ?_
  refine WL.gval rfl rfl (fun hb => x_lss (gv hb) (gv hb)) ?_
  refine WL.val (x_pick rfl (.bool (((!t5) || (decide (2147483647 < p1))) || (decide (p1 < p0.Low)))) pick_or) ?_
  refine WL.val (x_move (.bool (((!t5) || (decide (2147483647 < p1))) || (decide (p1 < p0.Low)))) rfl) ?_
  refine WL.gval rfl rfl (fun hb => x_fa rfl fo28_1) ?_
  refine WL.gval rfl rfl (fun hb => x_ld 0 (.slice A1_ p0.Seen.length c1_) hO rfl (gv hb) rfl one26) ?_
  refine WL.gval rfl rfl (fun hb => x_move (.int .i64 p1) rfl) ?_
  rcases btest hm0 with ⟨hb10, hm0⟩ | ⟨hb10, hm0⟩
  · refine WL.no rfl (kb rfl hb10) rfl ?_
    refine WL.val (x_pick_t (kb rfl hb10) (.bool true) rfl) ?_
    refine WL.nil ?_
    refine W.cond_t rfl ?_
    refine W.seq ?_
    refine W.region ?_
    refine WL.val (x_lds 0 [(.int .i64 p0.Low), (.slice A1_ p0.Seen.length c1_)] hO rfl rfl agg28 rfl rfl) ?_
    refine o_sts 1 [(.int .i64 p0.Low), (.slice A1_ p0.Seen.length c1_)] hO rfl rfl rfl siz28 rfl (Nat.le_of_ble_eq_true rfl) (by simp [Value.oneCell', vs]) ?_
    intro w11 hO
    refine WL.val (x_assign (.bool false) rfl) ?_
    refine WL.nil ?_
    refine W.ret ?_
    obtain rfl := Option.some.inj hm0
    exact ⟨[(.agg ([(.int .i64 p0.Low), (.slice A1_ p0.Seen.length c1_)] : List Value).toArray), (.bool false)], ⟨⟨_, rfl, hO.ldBlk 1 rfl agg28 rfl rfl⟩, rfl, trivial⟩, H7, _, ⟨A1_, c1_, rfl, (h1_.up le9)⟩, hO⟩
  · refine WL.yes rfl (kb rfl hb10) ?_
    obtain ⟨t12, ht13, hm0⟩ := bindSome hm0
    refine o_call hO go25 (slices_Contains_int_ok hO.sub (h1_.up le9) ht13) (args2 (by exact gkF hb10) (by exact gkF hb10)) ?_
    rintro _ H14 w15 le16 rfl hO
    refine WL.val (x_pick_f (kb rfl hb10) (.bool t12) rfl) ?_
    refine WL.nil ?_
    refine W.test rfl hm0 ?_ ?_
    · intro hb17 hm0
      refine W.seq ?_
      refine W.region ?_
      refine WL.val (x_lds 0 [(.int .i64 p0.Low), (.slice A1_ p0.Seen.length c1_)] hO rfl rfl agg28 rfl rfl) ?_
      refine o_sts 1 [(.int .i64 p0.Low), (.slice A1_ p0.Seen.length c1_)] hO rfl rfl rfl siz28 rfl (Nat.le_of_ble_eq_true rfl) (by simp [Value.oneCell', vs]) ?_
      intro w18 hO
      refine WL.val (x_assign (.bool false) rfl) ?_
      refine WL.nil ?_
      refine W.ret ?_
      obtain rfl := Option.some.inj hm0
      exact ⟨[(.agg ([(.int .i64 p0.Low), (.slice A1_ p0.Seen.length c1_)] : List Value).toArray), (.bool false)], ⟨⟨_, rfl, hO.ldBlk 1 rfl agg28 rfl rfl⟩, rfl, trivial⟩, H14, _, ⟨A1_, c1_, rfl, (h1_.up (le9.trans le16))⟩, hO⟩
    · intro hb17 hm0
      refine W.skip ?_
      refine W.seq ?_
      refine W.region ?_
      refine WL.val (x_fa rfl fo28_1) ?_
      refine WL.val (x_ld 0 (.slice A1_ p0.Seen.length c1_) hO rfl rfl rfl one26) ?_
      obtain ⟨t19, ht20, hm0⟩ := bindSome hm0
      refine o_callO hO go26 (slices_Clone_int_ok hO.sub (h1_.up (le9.trans le16)) ht20) rfl ?_
      rintro _ H21 O29 w22 le23 ⟨A24, c25, cs26, rfl, hr27, hk28⟩ hO'
      have hO := hO.callRow hO' 2 0 _ hk28; clear hO'
      refine WL.val (x_move (.int .i64 p1) rfl) ?_
      refine o_litT (en := (eInt .i64)) 3 [(.int .i64 p1)] ([p1] : List Int) hO sli26 ⟨rfl, trivial⟩ rfl rfl rfl ?_
      intro g30 cs31 w32 hr33 hO
      refine o_appT (en := (eInt .i64)) (xs := t19) (ys := ([p1] : List Int)) 2 hO rfl hr27 rfl rfl (Src.row (k := 3) hO rfl) hr33 sli26 rfl rfl Try.underlying26 hm0 ?_
      intro A34 c35 cs36 w37 hr38 hO hm0
      refine WL.val (x_assign (.slice A34 (t19 ++ ([p1] : List Int)).length c35) rfl) ?_
      refine WL.nil ?_
      refine W.seq ?_
      refine W.region ?_
      refine WL.val (x_move (.slice A34 (t19 ++ ([p1] : List Int)).length c35) rfl) ?_
      obtain ⟨t39, ht40, hm0⟩ := bindSome hm0
      refine o_callM (args := [(.slice A34 (t19 ++ ([p1] : List Int)).length c35)]) 2 hO rfl go27 (sort_ok Go.Proofs.Try.lays189 (hO.enter 2 rfl) hr38 ht40) rfl ?_
      rintro _ H41 O44 w42 le43 ⟨rfl, cs47, hr48, hl50, hk49⟩ hO; rw [hk49] at hO
      obtain ⟨H51, le52, h53, hO⟩ := hO.freezeRow (en := (eInt .i64)) 2 rfl rfl rfl hr48
      refine WL.nil ?_
      refine W.seq ?_
      obtain ⟨o54, hm1, hm0⟩ := bindSome hm0
      have hO := hO.pick [(0, .blk g1 [(.int .i64 p0.Low), (.slice A1_ p0.Seen.length c1_)] 28), (1, .blk g3 [(.int .i64 0), (.slice none 0 0)] 28)] ⟨rfl, rfl, trivial⟩
      refine W.blockLoop (fun r w => ∃ (v60 : List Int) (A61 : Option Addr) (c62 : Nat) (v64 : Int) (H55 : IHeap), (v60, v64) = o54 ∧ Le H51 H55 ∧ St w0 H0 [] H55 (ol [(0, .blk g1 [(.int .i64 v64), (.slice A1_ p0.Seen.length c1_)] 28), (1, .blk g3 [(.int .i64 0), (.slice none 0 0)] 28)]) w ∧ r 2 = (.pointer (some ⟨g1, 0, none⟩)) ∧ r 4 = (.pointer (some ⟨g3, 0, none⟩)) ∧ r 6 = (.slice A61 v60.length c62) ∧ RS (eInt .i64) H55 A61 c62 v60) (fun k r w => ∃ (rest58 : Nat) (v60 : List Int) (A61 : Option Addr) (c62 : Nat) (v64 : Int) (H55 : IHeap), rest58 = k ∧ window_Accept_l1 rest58 v60 v64 = some o54 ∧ Le H51 H55 ∧ St w0 H0 [] H55 (ol [(0, .blk g1 [(.int .i64 v64), (.slice A1_ p0.Seen.length c1_)] 28), (1, .blk g3 [(.int .i64 0), (.slice none 0 0)] 28)]) w ∧ r 2 = (.pointer (some ⟨g1, 0, none⟩)) ∧ r 4 = (.pointer (some ⟨g3, 0, none⟩)) ∧ r 6 = (.slice A61 v60.length c62) ∧ RS (eInt .i64) H55 A61 c62 v60) FUEL ?_ ?_ ?_
      · exact ⟨_, t39, A34, c35, p0.Low, _, rfl, hm1, Le.refl _, hO, rfl, rfl, (relen hl50 rfl), h53⟩
      ·
        intro k r w
        rintro ⟨rest58, v60, A61, c62, v64, H55, rfl, hm1, le56, hO, f2_1, f4_1, f6_1, h63⟩
        cases rest58 with
        | zero => rw [window_Accept_l1] at hm1; cases hm1
        | succ rest58 =>
          rw [window_Accept_l1] at hm1
          refine W.seq ?_
          refine W.seq ?_
          refine W.region ?_
          refine WL.val (x_move (.slice A61 v60.length c62) f6_1) ?_
          refine WL.val (x_len rfl Try.underlying26) ?_
          refine WL.val (x_gtr rfl rfl) ?_
          refine WL.nil ?_
          refine W.test rfl hm1 ?_ ?_
          · intro hb65 hm1
            refine W.skip ?_
            refine W.block ?_
            refine W.draw (SD w0 H0 [] H55 [(1, .blk g3 [(.int .i64 0), (.slice none 0 0)] 28)]) (fun i => ([] : List Nat).contains i) mixed 9 rfl _ rfl ?_
            intro w66 hh1 hh2 hh3 hh4; have hO := hO.same hh1 hh2 hh3 hh4; clear hh1 hh2 hh3 hh4
            have hS : SD w0 H0 [] H55 [(1, .blk g3 [(.int .i64 0), (.slice none 0 0)] 28)] w66 := ⟨_, _, Le.refl _, hO, ⟨rfl, trivial⟩⟩
            refine WA.take (i := 0) rfl (by kernel_rfl) (fun w hS => x_move (.slice A61 v60.length c62) f6_1) hS ?_
            obtain ⟨hin70, hm1⟩ := chk hm1
            obtain ⟨a67, h68, hA69⟩ := RS.at_ h63 hin70
            refine WA.take (i := 1) rfl (by kernel_rfl) (fun w hS => x_ia (sA rfl hA69) rfl sle26 hin70) hS ?_
            refine WA.take (i := 2) rfl (by kernel_rfl) (fun w hS => x_ldc rfl (h68.int _ hS.sub) one3) hS ?_
            refine WA.take (i := 3) rfl (by kernel_rfl) (fun w hS => x_add rfl rfl) hS ?_
            refine WA.take (i := 4) rfl (by kernel_rfl) (fun w hS => x_move (.slice A61 v60.length c62) f6_1) hS ?_
            obtain ⟨hok71, hm1⟩ := chk hm1
            refine WA.take (i := 5) rfl (by kernel_rfl) (fun w hS => x_sll (xs := v60) sle26 rfl h63.1 rfl hok71) hS ?_
            refine WA.take (i := 6) rfl (by kernel_rfl) (fun w hS => x_fa f2_1 fo28_0) hS ?_
            refine WA.only (i := 7) (by kernel_rfl) rfl ?_
            refine o_st 0 (.int .i64 (i64w ((at0 v60 0) + 1))) hO rfl rfl rfl rfl siz3 rfl ?_
            intro w72 hO
            have hS : SD w0 H0 [] H55 [(1, .blk g3 [(.int .i64 0), (.slice none 0 0)] 28)] _ := ⟨_, _, (Le.refl _), hO, ⟨rfl, trivial⟩⟩
            refine WL.nil ⟨fun _ => hS, ?_⟩
            refine WA.take (i := 8) rfl (by kernel_rfl) (fun w hS => x_assign (.slice (sufA A61 (1 : Int).toNat (eInt .i64).size c62) (lcut v60 1 (v60.length : Int)).length (c62 - (1 : Int).toNat)) rfl) hS ?_
            refine WA.done (by kernel_rfl) ?_
            exact ⟨_, Nat.lt_succ_self _, rest58, (lcut v60 1 (v60.length : Int)), (sufA A61 (1 : Int).toNat (eInt .i64).size c62), (c62 - (1 : Int).toNat), i64w ((at0 v60 0) + 1), H55, rfl, hm1, le56, hO.pick _ ⟨rfl, rfl, trivial⟩, f2_1, f4_1, rfl, (RS.cut h63 hok71)⟩
          · intro hb65 hm1
            refine W.exit _ rfl ?_
            obtain rfl := Option.some.inj hm1
            exact ⟨v60, A61, c62, v64, H55, rfl, le56, hO.pick _ ⟨rfl, rfl, trivial⟩, f2_1, f4_1, f6_1, h63⟩
      · intro r w
        rintro ⟨v75, A76, c77, v79, H73, rfl, le74, hO, f81, f82, f83, h78⟩
        dsimp only at hm0
        refine W.seq ?_
        obtain ⟨o84, hm1, hm0⟩ := bindSome hm0
        have hO := hO.pick [(0, .blk g1 [(.int .i64 v79), (.slice A1_ p0.Seen.length c1_)] 28), (1, .blk g3 [(.int .i64 0), (.slice none 0 0)] 28)] ⟨rfl, rfl, trivial⟩
        refine W.blockLoop (fun r w => ∃ (v90 : List Int) (A91 : Option Addr) (c92 : Nat) (v94 : Int) (H85 : IHeap), (v90, v94) = o84 ∧ Le H73 H85 ∧ St w0 H0 [] H85 (ol [(0, .blk g1 [(.int .i64 v94), (.slice A1_ p0.Seen.length c1_)] 28), (1, .blk g3 [(.int .i64 0), (.slice none 0 0)] 28)]) w ∧ r 2 = (.pointer (some ⟨g1, 0, none⟩)) ∧ r 4 = (.pointer (some ⟨g3, 0, none⟩)) ∧ r 6 = (.slice A91 v90.length c92) ∧ RS (eInt .i64) H85 A91 c92 v90) (fun k r w => ∃ (rest88 : Nat) (v90 : List Int) (A91 : Option Addr) (c92 : Nat) (v94 : Int) (H85 : IHeap), rest88 = k ∧ window_Accept_l2 rest88 v90 v94 = some o84 ∧ Le H73 H85 ∧ St w0 H0 [] H85 (ol [(0, .blk g1 [(.int .i64 v94), (.slice A1_ p0.Seen.length c1_)] 28), (1, .blk g3 [(.int .i64 0), (.slice none 0 0)] 28)]) w ∧ r 2 = (.pointer (some ⟨g1, 0, none⟩)) ∧ r 4 = (.pointer (some ⟨g3, 0, none⟩)) ∧ r 6 = (.slice A91 v90.length c92) ∧ RS (eInt .i64) H85 A91 c92 v90) FUEL ?_ ?_ ?_
        · exact ⟨_, v75, A76, c77, v79, _, rfl, hm1, Le.refl _, hO, f81, f82, f83, h78⟩
        ·
          intro k r w
          rintro ⟨rest88, v90, A91, c92, v94, H85, rfl, hm1, le86, hO, f2_2, f4_2, f6_2, h93⟩
          cases rest88 with
          | zero => rw [window_Accept_l2] at hm1; cases hm1
          | succ rest88 =>
            rw [window_Accept_l2] at hm1
            refine W.seq ?_
            refine W.seq ?_
            refine W.draw (SD w0 H0 [] H85 [(0, .blk g1 [(.int .i64 v94), (.slice A1_ p0.Seen.length c1_)] 28), (1, .blk g3 [(.int .i64 0), (.slice none 0 0)] 28)]) (fun i => ([] : List Nat).contains i) mixed 11 rfl _ rfl ?_
            intro w95 hh1 hh2 hh3 hh4; have hO := hO.same hh1 hh2 hh3 hh4; clear hh1 hh2 hh3 hh4
            have hS : SD w0 H0 [] H85 [(0, .blk g1 [(.int .i64 v94), (.slice A1_ p0.Seen.length c1_)] 28), (1, .blk g3 [(.int .i64 0), (.slice none 0 0)] 28)] w95 := ⟨_, _, Le.refl _, hO, ⟨rfl, rfl, trivial⟩⟩
            refine WA.take (i := 0) rfl (by kernel_rfl) (fun w hS => x_move (.slice A91 v90.length c92) f6_2) hS ?_
            refine WA.take (i := 1) rfl (by kernel_rfl) (fun w hS => x_len rfl Try.underlying26) hS ?_
            refine WA.take (i := 2) rfl (by kernel_rfl) (fun w hS => x_gtr rfl rfl) hS ?_
            refine WA.take (i := 3) rfl (by kernel_rfl) (fun w hS => x_move (.bool (decide (0 < (v90.length : Int)))) rfl) hS ?_
            refine WA.gtake (i := 4) rfl rfl rfl (by kernel_rfl) (fun hb w hS => x_move (.slice A91 v90.length c92) f6_2) hS ?_
            rcases btest hm1 with ⟨hb96, hm1⟩ | ⟨hb96, hm1⟩
            · obtain ⟨hin100, hm1⟩ := chk hm1
              obtain ⟨a97, h98, hA99⟩ := RS.at_ h93 hin100
              refine WA.takeY (i := 5) rfl rfl (kb rfl hb96) (by kernel_rfl) (fun w hS => x_ia (sA (by exact gkT hb96) hA99) rfl sle26 hin100) hS ?_
              refine WA.takeY (i := 6) rfl rfl (kb rfl hb96) (by kernel_rfl) (fun w hS => x_ldc rfl (h98.int _ hS.sub) one3) hS ?_
              refine WA.takeY (i := 7) rfl rfl (kb rfl hb96) (by kernel_rfl) (fun w hS => x_fa f2_2 fo28_0) hS ?_
              refine WA.takeY (i := 8) rfl rfl (kb rfl hb96) (by kernel_rfl) (fun w hS => x_ldD 0 (.int .i64 v94) hS rfl rfl rfl one3) hS ?_
              refine WA.takeY (i := 9) rfl rfl (kb rfl hb96) (by kernel_rfl) (fun w hS => x_eql rfl rfl) hS ?_
              refine WA.take (i := 10) rfl (by kernel_rfl) (fun w hS => x_pick_t (kb rfl hb96) (.bool ((at0 v90 0) == v94)) rfl) hS ?_
              refine WA.done (by kernel_rfl) ?_
              refine W.test rfl hm1 ?_ ?_
              · intro hb101 hm1
                refine W.skip ?_
                refine W.block ?_
                refine W.draw (SD w0 H0 [] H85 [(1, .blk g3 [(.int .i64 0), (.slice none 0 0)] 28)]) (fun i => ([] : List Nat).contains i) mixed 8 rfl _ rfl ?_
                intro w102 hh1 hh2 hh3 hh4; have hO := hO.same hh1 hh2 hh3 hh4; clear hh1 hh2 hh3 hh4
                have hS : SD w0 H0 [] H85 [(1, .blk g3 [(.int .i64 0), (.slice none 0 0)] 28)] w102 := ⟨_, _, Le.refl _, hO, ⟨rfl, trivial⟩⟩
                refine WA.take (i := 0) rfl (by kernel_rfl) (fun w hS => x_fa f2_2 fo28_0) hS ?_
                refine WA.take (i := 3) rfl (by kernel_rfl) (fun w hS => x_move (.slice A91 v90.length c92) f6_2) hS ?_
                obtain ⟨hok103, hm1⟩ := chk hm1
                refine WA.take (i := 4) rfl (by kernel_rfl) (fun w hS => x_sll (xs := v90) sle26 rfl h93.1 rfl hok103) hS ?_
                refine WA.only (i := 1) (by kernel_rfl) rfl ?_
                refine WL.val (x_ld 0 (.int .i64 v94) hO rfl rfl rfl one3) ?_
                have hS : SD w0 H0 [] H85 [(1, .blk g3 [(.int .i64 0), (.slice none 0 0)] 28)] _ := ⟨_, _, (Le.refl _), hO, ⟨rfl, trivial⟩⟩
                refine WL.nil ⟨fun _ => hS, ?_⟩
                refine WA.take (i := 2) rfl (by kernel_rfl) (fun w hS => x_add rfl rfl) hS ?_
                refine WA.take (i := 5) rfl (by kernel_rfl) (fun w hS => x_fa f2_2 fo28_0) hS ?_
                refine WA.only (i := 6) (by kernel_rfl) rfl ?_
                refine o_st 0 (.int .i64 (i64w (v94 + 1))) hO rfl rfl rfl rfl siz3 rfl ?_
                intro w104 hO
                have hS : SD w0 H0 [] H85 [(1, .blk g3 [(.int .i64 0), (.slice none 0 0)] 28)] _ := ⟨_, _, (Le.refl _), hO, ⟨rfl, trivial⟩⟩
                refine WL.nil ⟨fun _ => hS, ?_⟩
                refine WA.take (i := 7) rfl (by kernel_rfl) (fun w hS => x_assign (.slice (sufA A91 (1 : Int).toNat (eInt .i64).size c92) (lcut v90 1 (v90.length : Int)).length (c92 - (1 : Int).toNat)) rfl) hS ?_
                refine WA.done (by kernel_rfl) ?_
                exact ⟨_, Nat.lt_succ_self _, rest88, (lcut v90 1 (v90.length : Int)), (sufA A91 (1 : Int).toNat (eInt .i64).size c92), (c92 - (1 : Int).toNat), i64w (v94 + 1), H85, rfl, hm1, le86, hO.pick _ ⟨rfl, rfl, trivial⟩, f2_2, f4_2, rfl, (RS.cut h93 hok103)⟩
              · intro hb101 hm1
                refine W.exit _ rfl ?_
                obtain rfl := Option.some.inj hm1
                exact ⟨v90, A91, c92, v94, H85, rfl, le86, hO.pick _ ⟨rfl, rfl, trivial⟩, f2_2, f4_2, f6_2, h93⟩
            · refine WA.takeN (i := 5) rfl rfl (kb rfl hb96) rfl (by kernel_rfl) hS ?_
              refine WA.takeN (i := 6) rfl rfl (kb rfl hb96) rfl (by kernel_rfl) hS ?_
              refine WA.takeN (i := 7) rfl rfl (kb rfl hb96) rfl (by kernel_rfl) hS ?_
              refine WA.takeN (i := 8) rfl rfl (kb rfl hb96) rfl (by kernel_rfl) hS ?_
              refine WA.takeN (i := 9) rfl rfl (kb rfl hb96) rfl (by kernel_rfl) hS ?_
              refine WA.take (i := 10) rfl (by kernel_rfl) (fun w hS => x_pick_f (kb rfl hb96) (.bool false) rfl) hS ?_
              refine WA.done (by kernel_rfl) ?_
              refine W.cond_f rfl ?_
              refine W.exit _ rfl ?_
              obtain rfl := Option.some.inj hm1
              exact ⟨v90, A91, c92, v94, H85, rfl, le86, hO.pick _ ⟨rfl, rfl, trivial⟩, f2_2, f4_2, f6_2, h93⟩
        · intro r w
          rintro ⟨v107, A108, c109, v111, H105, rfl, le106, hO, f113, f114, f115, h110⟩
          dsimp only at hm0
          refine W.seq ?_
          refine W.region ?_
          refine WL.val (x_move (.slice A108 v107.length c109) f115) ?_
          obtain ⟨t116, ht117, hm0⟩ := bindSome hm0
          refine o_callO hO go26 (slices_Clone_int_ok hO.sub h110 ht117) rfl ?_
          rintro _ H118 O126 w119 le120 ⟨A121, c122, cs123, rfl, hr124, hk125⟩ hO'
          have hO := hO.callRow hO' 4 0 _ hk125; clear hO'
          refine WL.val (x_fa f113 fo28_1) ?_
          refine o_st 0 (.slice A121 t116.length c122) hO rfl rfl rfl rfl siz26 rfl ?_
          intro w127 hO
          refine WL.nil ?_
          refine W.seq ?_
          refine W.region ?_
          refine WL.val (x_lds 0 [(.int .i64 v111), (.slice A121 t116.length c122)] hO rfl f113 agg28 rfl rfl) ?_
          refine o_sts 1 [(.int .i64 v111), (.slice A121 t116.length c122)] hO rfl f114 rfl siz28 rfl (Nat.le_of_ble_eq_true rfl) (by simp [Value.oneCell', vs]) ?_
          intro w128 hO
          refine WL.val (x_assign (.bool true) rfl) ?_
          refine WL.nil ?_
          refine W.ret ?_
          obtain ⟨H129, le130, h131, hO⟩ := hO.freezeRow (en := (eInt .i64)) 4 rfl rfl rfl hr124
          obtain rfl := Option.some.inj hm0
          exact ⟨[(.agg ([(.int .i64 v111), (.slice A121 t116.length c122)] : List Value).toArray), (.bool true)], ⟨⟨_, f114, hO.ldBlk 1 rfl agg28 rfl rfl⟩, rfl, trivial⟩, H129, _, ⟨A121, c122, rfl, h131⟩, hO⟩

theorem port_Receive_ok {w0 : World} {H0 : IHeap} (hS : Sub H0 w0) {p0 : PortPort} {p1 : Str}  {A1_ : Option Addr} {c1_ : Nat} {A2_ : Option Addr} {c2_ : Nat} (h1_ : RS eLinkFrame H0 A1_ c1_ p0.Link.Queue) (h2_ : RS (eInt .i64) H0 A2_ c2_ p0.Window.Seen) {res : PortPort × Str × Bool × Str × Int} (hm0 : port_Receive p0 p1 = some res) :
    Ok Try.prog 12 [(.agg ([(.int .i64 p0.Link.Next), (.slice A1_ p0.Link.Queue.length c1_), (.int .i64 p0.Window.Low), (.slice A2_ p0.Window.Seen.length c2_)] : List Value).toArray), (vs p1)].toArray w0 H0 (fun H' v => ∃ (A1 : Option Addr) (c1 : Nat) (A2 : Option Addr) (c2 : Nat), v = (.tuple ([(.agg ([(.int .i64 res.1.Link.Next), (.slice A1 res.1.Link.Queue.length c1), (.int .i64 res.1.Window.Low), (.slice A2 res.1.Window.Seen.length c2)] : List Value).toArray), (vs res.2.1), (.bool res.2.2.1), (vs res.2.2.2.1), (.int .i64 res.2.2.2.2)] : List Value).toArray) ∧ RS eLinkFrame H' A1 c1 res.1.Link.Queue ∧ RS (eInt .i64) H' A2 c2 res.1.Window.Seen) := by
  unfold port_Receive at hm0
  refine OkO.ok (okO_of_W Try.func12 rfl Try.ntmps12 (rs := [.cell 4 30, .tmp 5, .tmp 6, .tmp 7, .tmp 8]) rfl rfl ?_)
  have hO := St.start hS
  refine W.seq ?_
  refine W.region ?_
  refine o_box 0 [(.int .i64 p0.Link.Next), (.slice A1_ p0.Link.Queue.length c1_), (.int .i64 p0.Window.Low), (.slice A2_ p0.Window.Seen.length c2_)] hO rfl ?_
  intro g1 w2 hO
  refine o_alloc 1 _ [(.int .i64 0), (.slice none 0 0), (.int .i64 0), (.slice none 0 0)] zer30 hO rfl ?_
  intro g3 w4 hO
  refine WL.val (x_assign (vs ([] : Str)) rfl) ?_
  refine WL.val (x_assign (.bool false) rfl) ?_
  refine WL.val (x_assign (vs ([] : Str)) rfl) ?_
  refine WL.val (x_assign (.int .i64 0) rfl) ?_
  refine WL.nil ?_
  refine W.seq ?_
  refine W.region ?_
  refine WL.val (x_move (vs p1) rfl) ?_
  obtain ⟨t5, ht6, hm0⟩ := bindSome hm0
  refine o_call hO go15 (port_Unpack_ok hO.sub  ht6) rfl ?_
  rintro _ H7 w8 le9 rfl hO
  refine WL.val (x_move (.tuple ([(.int .u8 t5.1), (.int .i64 t5.2.1), (vs t5.2.2.1), (.int .i64 t5.2.2.2)] : List Value).toArray) rfl) ?_
  refine WL.val (x_extract (.int .u8 t5.1) rfl rfl) ?_
  refine WL.val (x_extract (.int .i64 t5.2.1) rfl rfl) ?_
  refine WL.val (x_extract (vs t5.2.2.1) rfl rfl) ?_
  refine WL.val (x_extract (.int .i64 t5.2.2.2) rfl rfl) ?_
  refine WL.val (x_assign (.int .u8 t5.1) rfl) ?_
  refine WL.val (x_assign (.int .i64 t5.2.1) rfl) ?_
  refine WL.val (x_assign (vs t5.2.2.1) rfl) ?_
  refine WL.val (x_assign (.int .i64 t5.2.2.2) rfl) ?_
  refine WL.nil ?_
  refine W.seq ?_
  refine W.seq ?_
  refine W.region ?_
  refine WL.val (x_move (.int .i64 t5.2.2.2) rfl) ?_
  refine WL.val (x_neq rfl rfl) ?_
  refine WL.nil ?_
  refine W.test rfl hm0 ?_ ?_
  · intro hb10 hm0
    refine W.seq ?_
    refine W.region ?_
    refine WL.val (x_lds 0 [(.int .i64 p0.Link.Next), (.slice A1_ p0.Link.Queue.length c1_), (.int .i64 p0.Window.Low), (.slice A2_ p0.Window.Seen.length c2_)] hO rfl rfl agg30 rfl rfl) ?_
    refine WL.val (x_move (.int .i64 t5.2.2.2) rfl) ?_
    refine o_sts 1 [(.int .i64 p0.Link.Next), (.slice A1_ p0.Link.Queue.length c1_), (.int .i64 p0.Window.Low), (.slice A2_ p0.Window.Seen.length c2_)] hO rfl rfl rfl siz30 rfl (Nat.le_of_ble_eq_true rfl) (by simp [Value.oneCell', vs]) ?_
    intro w11 hO
    refine WL.val (x_assign (vs ([] : Str)) rfl) ?_
    refine WL.val (x_assign (.bool false) rfl) ?_
    refine WL.val (x_assign (vs ([] : Str)) rfl) ?_
    refine WL.val (x_assign (.int .i64 t5.2.2.2) rfl) ?_
    refine WL.nil ?_
    refine W.ret ?_
    obtain rfl := Option.some.inj hm0
    exact ⟨[(.agg ([(.int .i64 p0.Link.Next), (.slice A1_ p0.Link.Queue.length c1_), (.int .i64 p0.Window.Low), (.slice A2_ p0.Window.Seen.length c2_)] : List Value).toArray), (vs ([] : Str)), (.bool false), (vs ([] : Str)), (.int .i64 t5.2.2.2)], ⟨⟨_, rfl, hO.ldBlk 1 rfl agg30 rfl rfl⟩, rfl, rfl, rfl, rfl, trivial⟩, H7, _, ⟨A1_, c1_, A2_, c2_, rfl, (h1_.up le9), (h2_.up le9)⟩, hO⟩
  · intro hb10 hm0
    refine W.skip ?_
    refine W.seq ?_
    refine W.seq ?_
    refine W.region ?_
    refine WL.val (x_move (.int .u8 t5.1) rfl) ?_
    refine WL.val (x_eql rfl rfl) ?_
    refine WL.nil ?_
    refine W.test rfl hm0 ?_ ?_
    · intro hb12 hm0
      refine W.seq ?_
      refine W.region ?_
      refine WL.val (x_fa rfl fo30_0) ?_
      refine WL.val (x_lds 0 [(.int .i64 p0.Link.Next), (.slice A1_ p0.Link.Queue.length c1_)] hO rfl rfl agg25 rfl rfl) ?_
      refine WL.val (x_move (.int .i64 t5.2.1) rfl) ?_
      obtain ⟨t13, ht14, hm0⟩ := bindSome hm0
      refine o_call hO go16 (link_Told_ok hO.sub (h1_.up le9) ht14) rfl ?_
      rintro _ H15 w16 le17 ⟨A18, c19, rfl, h20⟩ hO
      refine WL.val (x_fa rfl fo30_0) ?_
      refine o_sts 0 [(.int .i64 t13.Next), (.slice A18 t13.Queue.length c19)] hO rfl rfl rfl siz25 rfl (Nat.le_of_ble_eq_true rfl) (by simp [Value.oneCell', vs]) ?_
      intro w21 hO
      refine WL.nil ?_
      refine W.seq ?_
      refine W.region ?_
      refine WL.val (x_lds 0 [(.int .i64 t13.Next), (.slice A18 t13.Queue.length c19), (.int .i64 p0.Window.Low), (.slice A2_ p0.Window.Seen.length c2_)] hO rfl rfl agg30 rfl rfl) ?_
      refine o_sts 1 [(.int .i64 t13.Next), (.slice A18 t13.Queue.length c19), (.int .i64 p0.Window.Low), (.slice A2_ p0.Window.Seen.length c2_)] hO rfl rfl rfl siz30 rfl (Nat.le_of_ble_eq_true rfl) (by simp [Value.oneCell', vs]) ?_
      intro w22 hO
      refine WL.val (x_assign (vs ([] : Str)) rfl) ?_
      refine WL.val (x_assign (.bool false) rfl) ?_
      refine WL.val (x_assign (vs ([] : Str)) rfl) ?_
      refine WL.val (x_assign (.int .i64 0) rfl) ?_
      refine WL.nil ?_
      refine W.ret ?_
      obtain rfl := Option.some.inj hm0
      exact ⟨[(.agg ([(.int .i64 t13.Next), (.slice A18 t13.Queue.length c19), (.int .i64 p0.Window.Low), (.slice A2_ p0.Window.Seen.length c2_)] : List Value).toArray), (vs ([] : Str)), (.bool false), (vs ([] : Str)), (.int .i64 0)], ⟨⟨_, rfl, hO.ldBlk 1 rfl agg30 rfl rfl⟩, rfl, rfl, rfl, rfl, trivial⟩, H15, _, ⟨A18, c19, A2_, c2_, rfl, h20, (h2_.up (le9.trans le17))⟩, hO⟩
    · intro hb12 hm0
      refine W.skip ?_
      refine W.seq ?_
      refine W.region ?_
      refine WL.val (x_move (.int .i64 t5.2.1) rfl) ?_
      obtain ⟨t23, ht24, hm0⟩ := bindSome hm0
      refine o_call hO go13 (port_Pack_ok hO.sub  ht24) rfl ?_
      rintro _ H25 w26 le27 rfl hO
      refine WL.val (x_move (.tuple ([(vs t23.1), (.int .i64 t23.2)] : List Value).toArray) rfl) ?_
      refine WL.val (x_extract (vs t23.1) rfl rfl) ?_
      refine WL.val (x_extract (.int .i64 t23.2) rfl rfl) ?_
      refine WL.val (x_assign (vs t23.1) rfl) ?_
      refine WL.val (x_assign (.int .i64 t23.2) rfl) ?_
      refine WL.nil ?_
      refine W.seq ?_
      refine W.region ?_
      refine WL.val (x_fa rfl fo30_1) ?_
      refine WL.val (x_lds 0 [(.int .i64 p0.Window.Low), (.slice A2_ p0.Window.Seen.length c2_)] hO rfl rfl agg28 rfl rfl) ?_
      refine WL.val (x_move (.int .i64 t5.2.1) rfl) ?_
      obtain ⟨t28, ht29, hm0⟩ := bindSome hm0
      refine o_call hO go17 (window_Accept_ok hO.sub (h2_.up (le9.trans le27)) ht29) rfl ?_
      rintro _ H30 w31 le32 ⟨A33, c34, rfl, h35⟩ hO
      refine WL.val (x_move (.tuple ([(.agg ([(.int .i64 t28.1.Low), (.slice A33 t28.1.Seen.length c34)] : List Value).toArray), (.bool t28.2)] : List Value).toArray) rfl) ?_
      refine WL.val (x_extract (.agg ([(.int .i64 t28.1.Low), (.slice A33 t28.1.Seen.length c34)] : List Value).toArray) rfl rfl) ?_
      refine WL.val (x_extract (.bool t28.2) rfl rfl) ?_
      refine o_alloc 2 _ [(.int .i64 0), (.slice none 0 0)] zer28 hO rfl ?_
      intro g36 w37 hO
      refine o_sts 2 [(.int .i64 t28.1.Low), (.slice A33 t28.1.Seen.length c34)] hO rfl rfl rfl siz28 rfl (Nat.le_of_ble_eq_true rfl) (by simp [Value.oneCell', vs]) ?_
      intro w38 hO
      refine WL.val (x_assign (.bool t28.2) rfl) ?_
      refine WL.nil ?_
      refine W.seq ?_
      refine W.seq ?_
      refine W.region ?_
      refine WL.val (x_move (.bool t28.2) rfl) ?_
      refine WL.val (x_not rfl) ?_
      refine WL.nil ?_
      refine W.test rfl hm0 ?_ ?_
      · intro hb39 hm0
        refine W.seq ?_
        refine W.region ?_
        refine WL.val (x_lds 0 [(.int .i64 p0.Link.Next), (.slice A1_ p0.Link.Queue.length c1_), (.int .i64 p0.Window.Low), (.slice A2_ p0.Window.Seen.length c2_)] hO rfl rfl agg30 rfl rfl) ?_
        refine WL.val (x_move (vs t23.1) rfl) ?_
        refine o_sts 1 [(.int .i64 p0.Link.Next), (.slice A1_ p0.Link.Queue.length c1_), (.int .i64 p0.Window.Low), (.slice A2_ p0.Window.Seen.length c2_)] hO rfl rfl rfl siz30 rfl (Nat.le_of_ble_eq_true rfl) (by simp [Value.oneCell', vs]) ?_
        intro w40 hO
        refine WL.val (x_assign (vs ([] : Str)) rfl) ?_
        refine WL.val (x_assign (.bool false) rfl) ?_
        refine WL.val (x_assign (vs t23.1) rfl) ?_
        refine WL.val (x_assign (.int .i64 0) rfl) ?_
        refine WL.nil ?_
        refine W.ret ?_
        obtain rfl := Option.some.inj hm0
        exact ⟨[(.agg ([(.int .i64 p0.Link.Next), (.slice A1_ p0.Link.Queue.length c1_), (.int .i64 p0.Window.Low), (.slice A2_ p0.Window.Seen.length c2_)] : List Value).toArray), (vs ([] : Str)), (.bool false), (vs t23.1), (.int .i64 0)], ⟨⟨_, rfl, hO.ldBlk 1 rfl agg30 rfl rfl⟩, rfl, rfl, rfl, rfl, trivial⟩, H30, _, ⟨A1_, c1_, A2_, c2_, rfl, (h1_.up (le9.trans (le27.trans le32))), (h2_.up (le9.trans (le27.trans le32)))⟩, hO⟩
      · intro hb39 hm0
        refine W.skip ?_
        refine W.seq ?_
        refine W.region ?_
        refine WL.val (x_lds 2 [(.int .i64 t28.1.Low), (.slice A33 t28.1.Seen.length c34)] hO rfl rfl agg28 rfl rfl) ?_
        refine WL.val (x_fa rfl fo30_1) ?_
        refine o_sts 0 [(.int .i64 t28.1.Low), (.slice A33 t28.1.Seen.length c34)] hO rfl rfl rfl siz28 rfl (Nat.le_of_ble_eq_true rfl) (by simp [Value.oneCell', vs]) ?_
        intro w41 hO
        refine WL.nil ?_
        refine W.seq ?_
        refine W.region ?_
        refine WL.val (x_lds 0 [(.int .i64 p0.Link.Next), (.slice A1_ p0.Link.Queue.length c1_), (.int .i64 t28.1.Low), (.slice A33 t28.1.Seen.length c34)] hO rfl rfl agg30 rfl rfl) ?_
        refine WL.val (x_move (vs t5.2.2.1) rfl) ?_
        refine WL.val (x_move (vs t23.1) rfl) ?_
        refine o_sts 1 [(.int .i64 p0.Link.Next), (.slice A1_ p0.Link.Queue.length c1_), (.int .i64 t28.1.Low), (.slice A33 t28.1.Seen.length c34)] hO rfl rfl rfl siz30 rfl (Nat.le_of_ble_eq_true rfl) (by simp [Value.oneCell', vs]) ?_
        intro w42 hO
        refine WL.val (x_assign (vs t5.2.2.1) rfl) ?_
        refine WL.val (x_assign (.bool true) rfl) ?_
        refine WL.val (x_assign (vs t23.1) rfl) ?_
        refine WL.val (x_assign (.int .i64 0) rfl) ?_
        refine WL.nil ?_
        refine W.ret ?_
        obtain rfl := Option.some.inj hm0
        exact ⟨[(.agg ([(.int .i64 p0.Link.Next), (.slice A1_ p0.Link.Queue.length c1_), (.int .i64 t28.1.Low), (.slice A33 t28.1.Seen.length c34)] : List Value).toArray), (vs t5.2.2.1), (.bool true), (vs t23.1), (.int .i64 0)], ⟨⟨_, rfl, hO.ldBlk 1 rfl agg30 rfl rfl⟩, rfl, rfl, rfl, rfl, trivial⟩, H30, _, ⟨A1_, c1_, A33, c34, rfl, (h1_.up (le9.trans (le27.trans le32))), h35⟩, hO⟩

theorem switchboardlaw23_tell_ok {w0 : World} {H0 : IHeap} (hS : Sub H0 w0) {p0 : Switchboardlaw23Net} {p1 : Int}  {cs1_ : List Value} (h1_ : Enc.rep eSwitchboardlaw23Net H0 cs1_ p0) {res : Switchboardlaw23Net} (hm0 : switchboardlaw23_tell p0 p1 = some res) :
    Ok Try.prog 5 [(.agg cs1_.toArray), (.int .i64 p1)].toArray w0 H0 (fun H' v => ∃ (cs1 : List Value), v = (.agg cs1.toArray) ∧ Enc.rep eSwitchboardlaw23Net H' cs1 res) := by
  unfold switchboardlaw23_tell at hm0
  refine OkO.ok (okO_of_W Try.func5 rfl Try.ntmps5 (rs := [.cell 4 34]) rfl rfl ?_)
  have hO := St.start hS
  refine W.seq ?_
  refine W.region ?_
  refine o_box 0 cs1_ hO rfl ?_
  intro g1 w2 hO
  refine o_alloc 1 _ zc34 zer34 hO rfl ?_
  intro g3 w4 hO
  refine WL.nil ?_
  refine W.seq ?_
  refine W.seq ?_
  refine W.region ?_
  refine WL.val (x_fa rfl fo34_3) ?_
  obtain ⟨cs5, hr6, hc7⟩ := lSwitchboardlaw23Net_back.part _ _ _ h1_
  obtain ⟨A8, c9, rfl, h10⟩ := hr6
  refine WL.val (x_ld 0 (.slice A8 p0.back.length c9) hO rfl rfl (hc7 0 _ rfl) one31) ?_
  refine WL.val (x_len rfl Try.underlying31) ?_
  refine WL.val (x_eql rfl rfl) ?_
  refine WL.nil ?_
  refine W.test rfl hm0 ?_ ?_
  · intro hb11 hm0
    refine W.seq ?_
    refine W.region ?_
    refine WL.val (x_lds 0 cs1_ hO rfl rfl agg34 (whole_take (rep_len h1_ rfl)) (rep_len h1_ rfl)) ?_
    refine o_stP 1 (.agg cs1_.toArray) hO rfl (zr34 _) (Lens.refl _) rfl rfl rfl h1_ siz34 ?_
    intro cs12 w13 (hr14 : Enc.rep eSwitchboardlaw23Net H0 cs12 p0) hO
    refine WL.nil ?_
    refine W.ret ?_
    obtain rfl := Option.some.inj hm0
    exact ⟨[(.agg cs12.toArray)], ⟨⟨_, rfl, hO.ldBlk 1 rfl agg34 (whole_take (rep_len hr14 rfl)) (rep_len hr14 rfl)⟩, trivial⟩, H0, _, ⟨cs12, rfl, hr14⟩, hO⟩
  · intro hb11 hm0
    refine W.skip ?_
    refine W.seq ?_
    refine W.region ?_
    refine WL.val (x_move (.int .i64 p1) rfl) ?_
    refine WL.val (x_fa rfl fo34_3) ?_
    obtain ⟨cs15, hr16, hc17⟩ := lSwitchboardlaw23Net_back.part _ _ _ h1_
    obtain ⟨A18, c19, rfl, h20⟩ := hr16
    refine WL.val (x_ld 0 (.slice A18 p0.back.length c19) hO rfl rfl (hc17 0 _ rfl) one31) ?_
    refine WL.val (x_len rfl Try.underlying31) ?_
    obtain ⟨hz21, hm0⟩ := chk hm0
    refine WL.val (x_rem rfl rfl (nz hz21)) ?_
    refine WL.val (x_assign (.int .i64 (Int.tmod p1 (p0.back.length : Int))) rfl) ?_
    refine WL.nil ?_
    refine W.seq ?_
    refine W.draw (SD w0 H0 [] H0 [(0, .blk g1 cs1_ 34), (1, .blk g3 zc34 34)]) (fun i => ([] : List Nat).contains i) mixed 20 rfl _ rfl ?_
    intro w22 hh1 hh2 hh3 hh4; have hO := hO.same hh1 hh2 hh3 hh4; clear hh1 hh2 hh3 hh4
    have hS : SD w0 H0 [] H0 [(0, .blk g1 cs1_ 34), (1, .blk g3 zc34 34)] w22 := ⟨_, _, Le.refl _, hO, ⟨rfl, rfl, trivial⟩⟩
    refine WA.take (i := 0) rfl (by kernel_rfl) (fun w hS => x_fa rfl fo34_0) hS ?_
    obtain ⟨cs23, hr24, hc25⟩ := lSwitchboardlaw23Net_a.part _ _ _ h1_
    obtain ⟨A26, c27, A29, c30, rfl, h28, h31⟩ := hr24
    refine WA.take (i := 1) rfl (by kernel_rfl) (fun w hS => x_ldsD 0 [(.int .i64 p0.a.Link.Next), (.slice A26 p0.a.Link.Queue.length c27), (.int .i64 p0.a.Window.Low), (.slice A29 p0.a.Window.Seen.length c30)] hS rfl rfl agg30 (take_of_part hc25 rfl) rfl) hS ?_
    refine WA.take (i := 2) rfl (by kernel_rfl) (fun w hS => x_fa rfl fo34_3) hS ?_
    obtain ⟨cs32, hr33, hc34⟩ := lSwitchboardlaw23Net_back.part _ _ _ h1_
    obtain ⟨A35, c36, rfl, h37⟩ := hr33
    refine WA.take (i := 3) rfl (by kernel_rfl) (fun w hS => x_ldD 0 (.slice A35 p0.back.length c36) hS rfl rfl (hc34 0 _ rfl) one31) hS ?_
    refine WA.take (i := 4) rfl (by kernel_rfl) (fun w hS => x_move (.int .i64 (Int.tmod p1 (p0.back.length : Int))) rfl) hS ?_
    obtain ⟨hin41, hm0⟩ := chk hm0
    obtain ⟨a38, h39, hA40⟩ := RS.at_ h37 hin41
    refine WA.take (i := 5) rfl (by kernel_rfl) (fun w hS => x_ia (sA rfl hA40) rfl sle31 hin41) hS ?_
    refine WA.take (i := 6) rfl (by kernel_rfl) (fun w hS => x_ldc rfl (h39.str _ hS.sub) one9) hS ?_
    obtain ⟨t42, ht43, hm0⟩ := bindSome hm0
    refine WA.all [7, 14] (by kernel_rfl) (by simp) ?_
    intro i hi; simp only [List.mem_cons, List.not_mem_nil, or_false] at hi
    rcases hi with rfl | rfl
    · refine ⟨_, rfl, ?_⟩
      refine o_call hO go12 (port_Receive_ok hO.sub h28 h31 ht43) rfl ?_
      rintro _ H44 w45 le46 ⟨A47, c48, A50, c51, rfl, h49, h52⟩ hO
      have hS : SD w0 H0 [] H0 [(0, .blk g1 cs1_ 34), (1, .blk g3 zc34 34)] _ := ⟨_, _, le46, hO, ⟨rfl, rfl, trivial⟩⟩
      refine WL.nil ⟨fun _ => hS, ?_⟩
      refine WA.take (i := 8) rfl (by kernel_rfl) (fun w hS => x_move (.tuple ([(.agg ([(.int .i64 t42.1.Link.Next), (.slice A47 t42.1.Link.Queue.length c48), (.int .i64 t42.1.Window.Low), (.slice A50 t42.1.Window.Seen.length c51)] : List Value).toArray), (vs t42.2.1), (.bool t42.2.2.1), (vs t42.2.2.2.1), (.int .i64 t42.2.2.2.2)] : List Value).toArray) rfl) hS ?_
      refine WA.take (i := 9) rfl (by kernel_rfl) (fun w hS => x_extract (.agg ([(.int .i64 t42.1.Link.Next), (.slice A47 t42.1.Link.Queue.length c48), (.int .i64 t42.1.Window.Low), (.slice A50 t42.1.Window.Seen.length c51)] : List Value).toArray) rfl rfl) hS ?_
      refine WA.take (i := 10) rfl (by kernel_rfl) (fun w hS => x_extract (vs t42.2.1) rfl rfl) hS ?_
      refine WA.take (i := 11) rfl (by kernel_rfl) (fun w hS => x_extract (.bool t42.2.2.1) rfl rfl) hS ?_
      refine WA.take (i := 12) rfl (by kernel_rfl) (fun w hS => x_extract (vs t42.2.2.2.1) rfl rfl) hS ?_
      refine WA.take (i := 13) rfl (by kernel_rfl) (fun w hS => x_extract (.int .i64 t42.2.2.2.2) rfl rfl) hS ?_
      refine WA.only (i := 14) (by kernel_rfl) rfl ?_
      refine o_alloc 2 _ [(.int .i64 0), (.slice none 0 0), (.int .i64 0), (.slice none 0 0)] zer30 hO rfl ?_
      intro g53 w54 hO
      have hS : SD w0 H0 [] H0 [(0, .blk g1 cs1_ 34), (1, .blk g3 zc34 34)] _ := ⟨_, _, le46, hO, ⟨rfl, rfl, trivial⟩⟩
      refine WL.nil ⟨fun _ => hS, ?_⟩
      refine WA.only (i := 15) (by kernel_rfl) rfl ?_
      refine o_sts 2 [(.int .i64 t42.1.Link.Next), (.slice A47 t42.1.Link.Queue.length c48), (.int .i64 t42.1.Window.Low), (.slice A50 t42.1.Window.Seen.length c51)] hO rfl rfl rfl siz30 rfl (Nat.le_of_ble_eq_true rfl) (by simp [Value.oneCell', vs]) ?_
      intro w55 hO
      have hS : SD w0 H0 [] H0 [(0, .blk g1 cs1_ 34), (1, .blk g3 zc34 34)] _ := ⟨_, _, le46, hO, ⟨rfl, rfl, trivial⟩⟩
      refine WL.nil ⟨fun _ => hS, ?_⟩
      refine WA.take (i := 16) rfl (by kernel_rfl) (fun w hS => x_assign (vs t42.2.1) rfl) hS ?_
      refine WA.take (i := 17) rfl (by kernel_rfl) (fun w hS => x_assign (.bool t42.2.2.1) rfl) hS ?_
      refine WA.take (i := 18) rfl (by kernel_rfl) (fun w hS => x_assign (vs t42.2.2.2.1) rfl) hS ?_
      refine WA.take (i := 19) rfl (by kernel_rfl) (fun w hS => x_assign (.int .i64 t42.2.2.2.2) rfl) hS ?_
      refine WA.done (by kernel_rfl) ?_
      refine W.seq ?_
      refine W.region ?_
      refine WL.val (x_lds 2 [(.int .i64 t42.1.Link.Next), (.slice A47 t42.1.Link.Queue.length c48), (.int .i64 t42.1.Window.Low), (.slice A50 t42.1.Window.Seen.length c51)] hO rfl rfl agg30 rfl rfl) ?_
      refine WL.val (x_fa rfl fo34_0) ?_
      refine o_stP 0 (.agg ([(.int .i64 t42.1.Link.Next), (.slice A47 t42.1.Link.Queue.length c48), (.int .i64 t42.1.Window.Low), (.slice A50 t42.1.Window.Seen.length c51)] : List Value).toArray) hO rfl (Enc.mono _ le46 h1_) lSwitchboardlaw23Net_a rfl rfl rfl ⟨A47, c48, A50, c51, rfl, h49, h52⟩ siz30 ?_
      intro cs56 w57 (hr58 : Enc.rep eSwitchboardlaw23Net H44 cs56 ({ p0 with a := (⟨(⟨t42.1.Link.Next, t42.1.Link.Queue⟩ : LinkLink), (⟨t42.1.Window.Low, t42.1.Window.Seen⟩ : WindowWindow)⟩ : PortPort) } : Switchboardlaw23Net)) hO
      refine WL.nil ?_
      refine W.seq ?_
      refine W.region ?_
      refine WL.val (x_fa rfl fo34_3) ?_
      obtain ⟨cs59, hr60, hc61⟩ := lSwitchboardlaw23Net_back.part _ _ _ hr58
      obtain ⟨A62, c63, rfl, h64⟩ := hr60
      refine WL.val (x_ld 0 (.slice A62 (({ p0 with a := (⟨(⟨t42.1.Link.Next, t42.1.Link.Queue⟩ : LinkLink), (⟨t42.1.Window.Low, t42.1.Window.Seen⟩ : WindowWindow)⟩ : PortPort) } : Switchboardlaw23Net).back).length c63) hO rfl rfl (hc61 0 _ rfl) one31) ?_
      refine WL.val (x_move (.int .i64 (Int.tmod p1 (p0.back.length : Int))) rfl) ?_
      obtain ⟨t65, ht66, hm0⟩ := bindSome hm0
      refine o_call hO go11 (switchboardref08_Without_ok hO.sub h64 ht66) rfl ?_
      rintro _ H67 w68 le69 ⟨A70, c71, rfl, h72⟩ hO
      refine WL.val (x_fa rfl fo34_3) ?_
      refine o_stP 0 (.slice A70 t65.length c71) hO rfl (Enc.mono _ le69 hr58) lSwitchboardlaw23Net_back rfl rfl rfl ⟨A70, c71, rfl, h72⟩ siz31 ?_
      intro cs73 w74 (hr75 : Enc.rep eSwitchboardlaw23Net H67 cs73 ({ ({ p0 with a := (⟨(⟨t42.1.Link.Next, t42.1.Link.Queue⟩ : LinkLink), (⟨t42.1.Window.Low, t42.1.Window.Seen⟩ : WindowWindow)⟩ : PortPort) } : Switchboardlaw23Net) with back := t65 } : Switchboardlaw23Net)) hO
      refine WL.nil ?_
      refine W.seq ?_
      refine W.region ?_
      refine WL.val (x_lds 0 cs73 hO rfl rfl agg34 (whole_take (rep_len hr75 rfl)) (rep_len hr75 rfl)) ?_
      refine o_stP 1 (.agg cs73.toArray) hO rfl (zr34 _) (Lens.refl _) rfl rfl rfl hr75 siz34 ?_
      intro cs76 w77 (hr78 : Enc.rep eSwitchboardlaw23Net H67 cs76 ({ ({ p0 with a := (⟨(⟨t42.1.Link.Next, t42.1.Link.Queue⟩ : LinkLink), (⟨t42.1.Window.Low, t42.1.Window.Seen⟩ : WindowWindow)⟩ : PortPort) } : Switchboardlaw23Net) with back := t65 } : Switchboardlaw23Net)) hO
      refine WL.nil ?_
      refine W.ret ?_
      obtain rfl := Option.some.inj hm0
      exact ⟨[(.agg cs76.toArray)], ⟨⟨_, rfl, hO.ldBlk 1 rfl agg34 (whole_take (rep_len hr78 rfl)) (rep_len hr78 rfl)⟩, trivial⟩, H67, _, ⟨cs76, rfl, hr78⟩, hO⟩
    · refine ⟨_, rfl, ?_⟩
      refine o_alloc 3 _ [(.int .i64 0), (.slice none 0 0), (.int .i64 0), (.slice none 0 0)] zer30 hO rfl ?_
      intro g44 w45 hO
      have hS : SD w0 H0 [] H0 [(0, .blk g1 cs1_ 34), (1, .blk g3 zc34 34)] _ := ⟨_, _, (Le.refl _), hO, ⟨rfl, rfl, trivial⟩⟩
      refine WL.nil ⟨fun _ => hS, ?_⟩
      refine WA.only (i := 7) (by kernel_rfl) rfl ?_
      refine o_call hO go12 (port_Receive_ok hO.sub h28 h31 ht43) rfl ?_
      rintro _ H46 w47 le48 ⟨A49, c50, A52, c53, rfl, h51, h54⟩ hO
      have hS : SD w0 H0 [] H0 [(0, .blk g1 cs1_ 34), (1, .blk g3 zc34 34)] _ := ⟨_, _, le48, hO, ⟨rfl, rfl, trivial⟩⟩
      refine WL.nil ⟨fun _ => hS, ?_⟩
      refine WA.take (i := 8) rfl (by kernel_rfl) (fun w hS => x_move (.tuple ([(.agg ([(.int .i64 t42.1.Link.Next), (.slice A49 t42.1.Link.Queue.length c50), (.int .i64 t42.1.Window.Low), (.slice A52 t42.1.Window.Seen.length c53)] : List Value).toArray), (vs t42.2.1), (.bool t42.2.2.1), (vs t42.2.2.2.1), (.int .i64 t42.2.2.2.2)] : List Value).toArray) rfl) hS ?_
      refine WA.take (i := 9) rfl (by kernel_rfl) (fun w hS => x_extract (.agg ([(.int .i64 t42.1.Link.Next), (.slice A49 t42.1.Link.Queue.length c50), (.int .i64 t42.1.Window.Low), (.slice A52 t42.1.Window.Seen.length c53)] : List Value).toArray) rfl rfl) hS ?_
      refine WA.take (i := 10) rfl (by kernel_rfl) (fun w hS => x_extract (vs t42.2.1) rfl rfl) hS ?_
      refine WA.take (i := 11) rfl (by kernel_rfl) (fun w hS => x_extract (.bool t42.2.2.1) rfl rfl) hS ?_
      refine WA.take (i := 12) rfl (by kernel_rfl) (fun w hS => x_extract (vs t42.2.2.2.1) rfl rfl) hS ?_
      refine WA.take (i := 13) rfl (by kernel_rfl) (fun w hS => x_extract (.int .i64 t42.2.2.2.2) rfl rfl) hS ?_
      refine WA.only (i := 15) (by kernel_rfl) rfl ?_
      refine o_sts 3 [(.int .i64 t42.1.Link.Next), (.slice A49 t42.1.Link.Queue.length c50), (.int .i64 t42.1.Window.Low), (.slice A52 t42.1.Window.Seen.length c53)] hO rfl rfl rfl siz30 rfl (Nat.le_of_ble_eq_true rfl) (by simp [Value.oneCell', vs]) ?_
      intro w55 hO
      have hS : SD w0 H0 [] H0 [(0, .blk g1 cs1_ 34), (1, .blk g3 zc34 34)] _ := ⟨_, _, le48, hO, ⟨rfl, rfl, trivial⟩⟩
      refine WL.nil ⟨fun _ => hS, ?_⟩
      refine WA.take (i := 16) rfl (by kernel_rfl) (fun w hS => x_assign (vs t42.2.1) rfl) hS ?_
      refine WA.take (i := 17) rfl (by kernel_rfl) (fun w hS => x_assign (.bool t42.2.2.1) rfl) hS ?_
      refine WA.take (i := 18) rfl (by kernel_rfl) (fun w hS => x_assign (vs t42.2.2.2.1) rfl) hS ?_
      refine WA.take (i := 19) rfl (by kernel_rfl) (fun w hS => x_assign (.int .i64 t42.2.2.2.2) rfl) hS ?_
      refine WA.done (by kernel_rfl) ?_
      refine W.seq ?_
      refine W.region ?_
      refine WL.val (x_lds 3 [(.int .i64 t42.1.Link.Next), (.slice A49 t42.1.Link.Queue.length c50), (.int .i64 t42.1.Window.Low), (.slice A52 t42.1.Window.Seen.length c53)] hO rfl rfl agg30 rfl rfl) ?_
      refine WL.val (x_fa rfl fo34_0) ?_
      refine o_stP 0 (.agg ([(.int .i64 t42.1.Link.Next), (.slice A49 t42.1.Link.Queue.length c50), (.int .i64 t42.1.Window.Low), (.slice A52 t42.1.Window.Seen.length c53)] : List Value).toArray) hO rfl (Enc.mono _ le48 h1_) lSwitchboardlaw23Net_a rfl rfl rfl ⟨A49, c50, A52, c53, rfl, h51, h54⟩ siz30 ?_
      intro cs56 w57 (hr58 : Enc.rep eSwitchboardlaw23Net H46 cs56 ({ p0 with a := (⟨(⟨t42.1.Link.Next, t42.1.Link.Queue⟩ : LinkLink), (⟨t42.1.Window.Low, t42.1.Window.Seen⟩ : WindowWindow)⟩ : PortPort) } : Switchboardlaw23Net)) hO
      refine WL.nil ?_
      refine W.seq ?_
      refine W.region ?_
      refine WL.val (x_fa rfl fo34_3) ?_
      obtain ⟨cs59, hr60, hc61⟩ := lSwitchboardlaw23Net_back.part _ _ _ hr58
      obtain ⟨A62, c63, rfl, h64⟩ := hr60
      refine WL.val (x_ld 0 (.slice A62 (({ p0 with a := (⟨(⟨t42.1.Link.Next, t42.1.Link.Queue⟩ : LinkLink), (⟨t42.1.Window.Low, t42.1.Window.Seen⟩ : WindowWindow)⟩ : PortPort) } : Switchboardlaw23Net).back).length c63) hO rfl rfl (hc61 0 _ rfl) one31) ?_
      refine WL.val (x_move (.int .i64 (Int.tmod p1 (p0.back.length : Int))) rfl) ?_
      obtain ⟨t65, ht66, hm0⟩ := bindSome hm0
      refine o_call hO go11 (switchboardref08_Without_ok hO.sub h64 ht66) rfl ?_
      rintro _ H67 w68 le69 ⟨A70, c71, rfl, h72⟩ hO
      refine WL.val (x_fa rfl fo34_3) ?_
      refine o_stP 0 (.slice A70 t65.length c71) hO rfl (Enc.mono _ le69 hr58) lSwitchboardlaw23Net_back rfl rfl rfl ⟨A70, c71, rfl, h72⟩ siz31 ?_
      intro cs73 w74 (hr75 : Enc.rep eSwitchboardlaw23Net H67 cs73 ({ ({ p0 with a := (⟨(⟨t42.1.Link.Next, t42.1.Link.Queue⟩ : LinkLink), (⟨t42.1.Window.Low, t42.1.Window.Seen⟩ : WindowWindow)⟩ : PortPort) } : Switchboardlaw23Net) with back := t65 } : Switchboardlaw23Net)) hO
      refine WL.nil ?_
      refine W.seq ?_
      refine W.region ?_
      refine WL.val (x_lds 0 cs73 hO rfl rfl agg34 (whole_take (rep_len hr75 rfl)) (rep_len hr75 rfl)) ?_
      refine o_stP 1 (.agg cs73.toArray) hO rfl (zr34 _) (Lens.refl _) rfl rfl rfl hr75 siz34 ?_
      intro cs76 w77 (hr78 : Enc.rep eSwitchboardlaw23Net H67 cs76 ({ ({ p0 with a := (⟨(⟨t42.1.Link.Next, t42.1.Link.Queue⟩ : LinkLink), (⟨t42.1.Window.Low, t42.1.Window.Seen⟩ : WindowWindow)⟩ : PortPort) } : Switchboardlaw23Net) with back := t65 } : Switchboardlaw23Net)) hO
      refine WL.nil ?_
      refine W.ret ?_
      obtain rfl := Option.some.inj hm0
      exact ⟨[(.agg cs76.toArray)], ⟨⟨_, rfl, hO.ldBlk 1 rfl agg34 (whole_take (rep_len hr78 rfl)) (rep_len hr78 rfl)⟩, trivial⟩, H67, _, ⟨cs76, rfl, hr78⟩, hO⟩

end Go.Sw

/- The calls compute the mirrors. -/
import Derived.Test.YtahaedoeckgidaaGreatZgF
import Derived.Test.YtahaedoeckgidaaGreatZgC2
set_option linter.unusedVariables false
set_option linter.unusedSimpArgs false
set_option maxRecDepth 100000
namespace Go.Sw
open WL (val nil gval yes no)
open W (region test seq skip)
open WA (take)
open Go.Proofs.Tryz
open Go.Proofs
theorem slices_ContainsFunc__int_model_Tokens_1_ok {w0 : World} {H0 : IHeap} (hS : Sub H0 w0) {p0 : List (List Int)} {q1_0 : ApiModel}  {A1_ : Option Addr} {c1_ : Nat} {a2_ : Addr} (h1_ : RS (eSl (eInt .i64)) H0 A1_ c1_ p0) (h2_ : At eApiModel H0 a2_ q1_0) {res : Bool} (hm0 : slices_ContainsFunc__int_model_Tokens_1 p0 q1_0 = some res) :
  Ok prog 75 [(.slice A1_ p0.length c1_), (.func (.func 76) #[] #[(.pointer (some a2_))])].toArray w0 H0 (fun H' v => v = (.bool res)) := by
 unfold slices_ContainsFunc__int_model_Tokens_1 at hm0
 refine ok_of_W Tryz.func75 rfl Tryz.ntmps75 (ts := [4]) rfl rfl rfl ?_
 have hO := St.start hS
 refine seq (region (val (x_assign (.bool false) rfl) ?_))
 refine nil (seq (region (val (x_move (.slice A1_ p0.length c1_) rfl) ?_)))
 refine val (x_move (.func (.func 76) #[] #[(.pointer (some a2_))]) rfl) ?_
 obtain ⟨t1, ht2, hm0⟩ := bindSome hm0
 refine o_call hO go121 (slices_IndexFunc__int_model_Tokens_1_ok hO.sub h1_ h2_ ht2) rfl ?_
 rintro _ H3 w4 le5 rfl hO
 refine val (x_geq rfl rfl) ?_
 refine val (x_assign (.bool (decide (0 ≤ t1))) rfl) ?_
 refine nil (W.ret ?_)
 obtain rfl := sj hm0
 exact ⟨H3, rfl, hO.done⟩
theorem model_Tokens_ok {w0 : World} {H0 : IHeap} (hS : Sub H0 w0) {p0 : ApiModel} {p1 : List (List Int)}  {A1_ : Option Addr} {c1_ : Nat} {A2_ : Option Addr} {c2_ : Nat} (h1_ : RS eApiLayer H0 A1_ c1_ p0.Layers) (h2_ : RS (eSl (eInt .i64)) H0 A2_ c2_ p1) {res : Bool} (hm0 : model_Tokens p0 p1 = some res) :
  Ok prog 35 [(.agg #[(.int .i64 p0.Dim), (.slice A1_ p0.Layers.length c1_)]), (.slice A2_ p1.length c2_)].toArray w0 H0 (fun H' v => v = (.bool res)) := by
 unfold model_Tokens at hm0
 refine ok_of_W Tryz.func35 rfl Tryz.ntmps35 (ts := [4]) rfl rfl rfl ?_
 have hO := St.start hS
 refine seq (region (o_box 0 [(.int .i64 p0.Dim), (.slice A1_ p0.Layers.length c1_)] hO rfl ?_))
 intro g1 w2 hO
 refine val (x_assign (.bool false) rfl) ?_
 refine nil (seq (region (val (x_move (.slice A2_ p1.length c2_) rfl) ?_)))
 refine val (x_len rfl underlying25) ?_
 refine val (x_geq rfl rfl) ?_
 refine val (x_move (.bool (decide (1 ≤ (p1.length : Int)))) rfl) ?_
 refine gval rfl rfl (fun hb => x_move (.slice A2_ p1.length c2_) rfl) ?_
 refine gval rfl rfl (fun hb => x_len (gv hb) underlying25) ?_
 refine gval rfl rfl (fun hb => x_leq (gv hb) rfl) ?_
 refine val (x_pick rfl (.bool ((decide (1 ≤ (p1.length : Int))) && (decide ((p1.length : Int) ≤ 16)))) pick_and) ?_
 refine val (x_move (.bool ((decide (1 ≤ (p1.length : Int))) && (decide ((p1.length : Int) ≤ 16)))) rfl) ?_
 refine gval rfl rfl (fun hb => x_move (.slice A2_ p1.length c2_) rfl) ?_
 rcases btest hm0 with ⟨hb3, hm0⟩ | ⟨hb3, hm0⟩
 ·obtain ⟨H4, le5, h6, hO⟩ := hO.freezeBlk (en := eApiModel) (x := p0) 0 rfl ⟨A1_, c1_, rfl, h1_⟩
  refine yes rfl (kb rfl hb3) ?_
  refine val (x_fun [(.pointer (some (⟨g1, 0, none⟩)))] rfl) ?_
  refine yes rfl (kb rfl hb3) ?_
  obtain ⟨t7, ht8, hm0⟩ := bindSome hm0
  refine o_call hO go75 (slices_ContainsFunc__int_model_Tokens_1_ok hO.sub (h2_.up le5) h6 ht8) (args2 (by exact gkT hb3) rfl) ?_
  rintro _ H9 w10 le11 rfl hO
  refine yes rfl (kb rfl hb3) ?_
  refine val (x_not rfl) ?_
  refine val (x_pick_t (kb rfl hb3) (.bool (!t7)) rfl) ?_
  refine val (x_assign (.bool (!t7)) rfl) ?_
  refine nil (W.ret ?_)
  obtain rfl := sj hm0
  exact ⟨H9, rfl, hO.done⟩
 ·refine no rfl (kb rfl hb3) rfl ?_
  refine no rfl (kb rfl hb3) rfl ?_
  refine no rfl (kb rfl hb3) rfl ?_
  refine val (x_pick_f (kb rfl hb3) (.bool false) rfl) ?_
  refine val (x_assign (.bool false) rfl) ?_
  refine nil (W.ret ?_)
  obtain rfl := sj hm0
  exact ⟨H0, rfl, hO.done⟩
theorem place_Right_ok {w0 : World} {H0 : IHeap} (hS : Sub H0 w0) {p0 : PlaceMap}  {A1_ : Option Addr} {c1_ : Nat} (h1_ : RS (eSl (eInt .i64)) H0 A1_ c1_ p0.Holders) {res : Bool} (hm0 : place_Right p0 = some res) :
  Ok prog 36 [(.agg #[(.int .i64 p0.Epoch), (.slice A1_ p0.Holders.length c1_)])].toArray w0 H0 (fun H' v => v = (.bool res)) := by
 unfold place_Right at hm0
 refine ok_of_W Tryz.func36 rfl Tryz.ntmps36 (ts := [2]) rfl rfl rfl ?_
 have hO := St.start hS
 refine seq (region (o_box 0 [(.int .i64 p0.Epoch), (.slice A1_ p0.Holders.length c1_)] hO rfl ?_))
 intro g1 w2 hO
 refine val (x_assign (.bool false) rfl) ?_
 refine nil (seq (seq (region (val (x_fa rfl fo27_1) ?_))))
 refine val (x_ld 0 (.slice A1_ p0.Holders.length c1_) hO rfl rfl rfl one25) ?_
 refine val (x_len rfl underlying25) ?_
 refine val (x_move (.int .i64 0) rfl) ?_
 refine nil ?_
 obtain ⟨o3, hm1, hm0⟩ := bindSome hm0
 have hO := hO.pick [(0, .blk g1 [(.int .i64 p0.Epoch), (.slice A1_ p0.Holders.length c1_)] 27)] ⟨rfl, trivial⟩
 refine W.blockLoop (fun r w => ∃ (i6 : Nat) (H4 : IHeap), .out () = o3 ∧ Le H0 H4 ∧ St w0 H0 [] H4 (ol [(0, .blk g1 [(.int .i64 p0.Epoch), (.slice A1_ p0.Holders.length c1_)] 27)]) w ∧ r 1 = (.pointer (some ⟨g1, 0, none⟩))) (fun k r w => ∃ (i6 : Nat) (rest7 : List (List Int)) (H4 : IHeap), k = rest7.length ∧ List.drop i6 p0.Holders = rest7 ∧ place_Right_l1 rest7 i6 = some o3 ∧ Le H0 H4 ∧ St w0 H0 [] H4 (ol [(0, .blk g1 [(.int .i64 p0.Epoch), (.slice A1_ p0.Holders.length c1_)] 27)]) w ∧ r 1 = (.pointer (some ⟨g1, 0, none⟩)) ∧ r 9 = (.slice A1_ p0.Holders.length c1_) ∧ r 10 = (.int .i64 (p0.Holders.length : Int)) ∧ r 11 = (.int .i64 (i6 : Int))) (List.length p0.Holders) ?_ ?_ ?_
 ·exact ⟨0, _, _, rfl, rfl, hm1, Le.refl _, hO, rfl, rfl, rfl, rfl⟩
 ·
  intro k r w
  rintro ⟨i6, rest7, H4, rfl, hd9, hm1, le5, hO, f1_1, f9_1, f10_1, f11_1⟩
  cases rest7 with
  | nil =>
   rw [place_Right_l1] at hm1
   have hlt := drop_nil hd9
   refine seq (region (val (x_lss f11_1 f10_1) ?_))
   refine nil (seq (W.cond_f (kb rfl hlt) ?_))
   refine W.exit _ rfl ?_
   obtain rfl := sj hm1
   exact ⟨i6, H4, rfl, le5, hO.pick _ ⟨rfl, trivial⟩, f1_1⟩
  | cons x8 rest7 =>
   rw [place_Right_l1] at hm1
   have hlt := drop_lt hd9
   have hnx := drop_next hd9
   have hinc := inc_len hlt h1_.1 h1_.2.1
   refine seq (region (val (x_lss f11_1 f10_1) ?_))
   refine nil (seq (W.cond_t (kb rfl hlt) ?_))
   refine skip (seq (W.block ?_))
   refine seq (region ?_)
   obtain ⟨a10, h11, hA12, hin⟩ := RS.atR (h1_.up le5) hd9
   refine val (x_ia (sA f9_1 hA12) f11_1 sle25 hin) ?_
   obtain ⟨A13, c14, h15, hc16⟩ := At.sl h11
   refine val (x_ldc rfl (hc16 _ hO.sub) one61) ?_
   refine val (x_assign (.slice A13 x8.length c14) rfl) ?_
   refine nil (seq (region (val (x_assign (.int .i64 0) rfl) ?_)))
   refine nil (seq (seq (region (val (x_move (.slice A13 x8.length c14) rfl) ?_))))
   refine val (x_len rfl underlying61) ?_
   refine val (x_move (.int .i64 0) rfl) ?_
   refine nil ?_
   obtain ⟨o17, hm2, hm1⟩ := bindSome hm1
   have hO := hO.pick [(0, .blk g1 [(.int .i64 p0.Epoch), (.slice A1_ p0.Holders.length c1_)] 27)] ⟨rfl, trivial⟩
   refine W.blockLoop (fun r w => ∃ (v23 : Int) (i20 : Nat) (H18 : IHeap), .out v23 = o17 ∧ Le H4 H18 ∧ St w0 H0 [] H18 (ol [(0, .blk g1 [(.int .i64 p0.Epoch), (.slice A1_ p0.Holders.length c1_)] 27)]) w ∧ r 1 = (.pointer (some ⟨g1, 0, none⟩)) ∧ r 4 = (.slice A13 x8.length c14) ∧ r 9 = (.slice A1_ p0.Holders.length c1_) ∧ r 10 = (.int .i64 (p0.Holders.length : Int)) ∧ r 11 = (.int .i64 (i6 : Int))) (fun k r w => ∃ (i20 : Nat) (rest21 : List Int) (v23 : Int) (H18 : IHeap), k = rest21.length ∧ List.drop i20 x8 = rest21 ∧ place_Right_l2 rest21 i20 v23 = some o17 ∧ Le H4 H18 ∧ St w0 H0 [] H18 (ol [(0, .blk g1 [(.int .i64 p0.Epoch), (.slice A1_ p0.Holders.length c1_)] 27)]) w ∧ r 1 = (.pointer (some ⟨g1, 0, none⟩)) ∧ r 4 = (.slice A13 x8.length c14) ∧ r 5 = (.int .i64 v23) ∧ r 9 = (.slice A1_ p0.Holders.length c1_) ∧ r 10 = (.int .i64 (p0.Holders.length : Int)) ∧ r 11 = (.int .i64 (i6 : Int)) ∧ r 15 = (.slice A13 x8.length c14) ∧ r 16 = (.int .i64 (x8.length : Int)) ∧ r 17 = (.int .i64 (i20 : Int))) (List.length x8) ?_ ?_ ?_
   ·exact ⟨0, _, 0, _, rfl, rfl, hm2, Le.refl _, hO, f1_1, rfl, rfl, f9_1, f10_1, f11_1, rfl, rfl, rfl⟩
   ·
    intro k r w
    rintro ⟨i20, rest21, v23, H18, rfl, hd24, hm2, le19, hO, f1_2, f4_2, f5_2, f9_2, f10_2, f11_2, f15_2, f16_2, f17_2⟩
    cases rest21 with
    | nil =>
     rw [place_Right_l2] at hm2
     have hlt := drop_nil hd24
     refine seq (region (val (x_lss f17_2 f16_2) ?_))
     refine nil (seq (W.cond_f (kb rfl hlt) ?_))
     refine W.exit _ rfl ?_
     obtain rfl := sj hm2
     exact ⟨v23, i20, H18, rfl, le19, hO.pick _ ⟨rfl, trivial⟩, f1_2, f4_2, f9_2, f10_2, f11_2⟩
    | cons x22 rest21 =>
     rw [place_Right_l2] at hm2
     have hlt := drop_lt hd24
     have hnx := drop_next hd24
     have hinc := inc_len hlt h15.1 h15.2.1
     refine seq (region (val (x_lss f17_2 f16_2) ?_))
     refine nil (seq (W.cond_t (kb rfl hlt) ?_))
     refine skip (seq (W.block ?_))
     refine seq (region ?_)
     obtain ⟨a25, h26, hA27, hin⟩ := RS.atR (h15.up le19) hd24
     refine val (x_ia (sA f15_2 hA27) f17_2 sle61 hin) ?_
     refine val (x_ldc rfl (h26.int _ hO.sub) one3) ?_
     refine val (x_assign (.int .i64 x22) rfl) ?_
     refine nil (seq (seq (region (val (x_move (.int .i64 x22) rfl) ?_))))
     refine val (x_move (.int .i64 v23) f5_2) ?_
     refine val (x_leq rfl rfl) ?_
     refine val (x_move (.bool (decide (x22 ≤ v23))) rfl) ?_
     refine gval rfl rfl (fun hb => x_move (.int .i64 x22) rfl) ?_
     refine gval rfl rfl (fun hb => x_gtr (gv hb) rfl) ?_
     refine val (x_pick rfl (.bool ((decide (x22 ≤ v23)) || (decide (4 < x22)))) pick_or) ?_
     refine nil (test rfl hm2 ?_ ?_)
     ·intro hb28 hm2
      refine seq (region (val (x_assign (.bool false) rfl) ?_))
      refine nil (W.ret ?_)
      obtain rfl := sj hm2
      dsimp only at hm1
      obtain rfl := sj hm1
      dsimp only at hm0
      obtain rfl := sj hm0
      exact ⟨H18, rfl, hO.done⟩
     ·intro hb28 hm2
      refine skip (region (val (x_move (.int .i64 x22) rfl) ?_))
      refine val (x_assign (.int .i64 x22) rfl) ?_
      refine nil (region (val (x_add f17_2 rfl) ?_))
      refine val (x_move (.int .i64 (i64w ((i20 : Int) + 1))) rfl) ?_
      refine nil ?_
      exact ⟨_, Nat.lt_succ_self _, i20 + 1, rest21, x22, H18, rfl, hnx, hm2, le19, hO.pick _ ⟨rfl, trivial⟩, f1_2, f4_2, rfl, f9_2, f10_2, f11_2, f15_2, f16_2, (incv hinc)⟩
   ·intro r w
    rintro ⟨v31, i32, H29, rfl, le30, hO, f33, f34, f35, f36, f37⟩
    dsimp only at hm1
    refine seq (region (val (x_move (.slice A13 x8.length c14) f34) ?_))
    refine val (x_len rfl underlying61) ?_
    refine val (x_eql rfl rfl) ?_
    refine nil (test rfl hm1 ?_ ?_)
    ·intro hb38 hm1
     refine seq (region (val (x_assign (.bool false) rfl) ?_))
     refine nil (W.ret ?_)
     obtain rfl := sj hm1
     dsimp only at hm0
     obtain rfl := sj hm0
     exact ⟨H29, rfl, hO.done⟩
    ·intro hb38 hm1
     refine skip (region (val (x_add f37 rfl) ?_))
     refine val (x_move (.int .i64 (i64w ((i6 : Int) + 1))) rfl) ?_
     refine nil ?_
     exact ⟨_, Nat.lt_succ_self _, i6 + 1, rest7, H29, rfl, hnx, hm1, (le5.trans le30), hO.pick _ ⟨rfl, trivial⟩, f33, f35, f36, (incv hinc)⟩
 ·intro r w
  rintro ⟨i41, H39, rfl, le40, hO, f42⟩
  dsimp only at hm0
  refine seq (region (val (x_fa f42 fo27_0) ?_))
  refine val (x_ld 0 (.int .i64 p0.Epoch) hO rfl rfl rfl one3) ?_
  refine val (x_geq rfl rfl) ?_
  refine val (x_move (.bool (decide (0 ≤ p0.Epoch))) rfl) ?_
  refine gval rfl rfl (fun hb => x_fa f42 fo27_0) ?_
  refine gval rfl rfl (fun hb => x_ld 0 (.int .i64 p0.Epoch) hO rfl (gv hb) rfl one3) ?_
  refine gval rfl rfl (fun hb => x_leq (gv hb) rfl) ?_
  refine val (x_pick rfl (.bool ((decide (0 ≤ p0.Epoch)) && (decide (p0.Epoch ≤ 2147483647)))) pick_and) ?_
  refine val (x_move (.bool ((decide (0 ≤ p0.Epoch)) && (decide (p0.Epoch ≤ 2147483647)))) rfl) ?_
  refine gval rfl rfl (fun hb => x_fa f42 fo27_1) ?_
  refine gval rfl rfl (fun hb => x_ld 0 (.slice A1_ p0.Holders.length c1_) hO rfl (gv hb) rfl one25) ?_
  refine gval rfl rfl (fun hb => x_len (gv hb) underlying25) ?_
  refine gval rfl rfl (fun hb => x_leq (gv hb) rfl) ?_
  refine val (x_pick rfl (.bool (((decide (0 ≤ p0.Epoch)) && (decide (p0.Epoch ≤ 2147483647))) && (decide ((p0.Holders.length : Int) ≤ 8)))) pick_and) ?_
  refine val (x_assign (.bool (((decide (0 ≤ p0.Epoch)) && (decide (p0.Epoch ≤ 2147483647))) && (decide ((p0.Holders.length : Int) ≤ 8)))) rfl) ?_
  refine nil (W.ret ?_)
  obtain rfl := sj hm0
  exact ⟨H39, rfl, hO.done⟩
theorem slices_Clone__int_ok {w0 : World} {H0 : IHeap} (hS : Sub H0 w0) {p0 : List (List Int)} {A1_ : Option Addr} {c1_ : Nat} (h1_ : RS (eSl (eInt .i64)) H0 A1_ c1_ p0) {res : List (List Int)} (hm0 : slices_Clone__int p0 = some res) :
  OkO prog 39 [(.slice A1_ p0.length c1_)].toArray w0 H0 (fun H' O' v => ∃ (A : Option Addr) (c : Nat) (cs : List Value), v = .slice A res.length c ∧ Rows (eSl (eInt .i64)) H' cs res ∧ O' 0 = some (.row A c 61 (eSl (eInt .i64)).size res.length cs)) := by
 obtain ⟨hl, hm0⟩ := chk hm0
 obtain rfl := sj hm0
 refine okO_of_W Tryz.func39 rfl Tryz.ntmps39 (rs := [.tmp 2]) rfl rfl ?_
 have hO := St.start hS
 refine seq (region (val (x_assign (.slice none 0 0) rfl) ?_))
 refine nil (seq (seq (region (val (x_move (.slice A1_ p0.length c1_) rfl) ?_))))
 refine val (x_eqlnil underlying25 rfl rfl) ?_
 refine nil (W.cond A1_.isNone rfl (fun hb => ?_) (fun hb => ?_))
 ·have hx := h1_.isNone hb
  subst hx
  refine seq (region (val (x_assign (.slice none 0 0) rfl) ?_))
  refine nil (W.ret ?_)
  have hO := hO.nilRowT (α := (List Int)) 0 none 61 (eSl (eInt .i64))
  exact ⟨[_], ⟨rfl, trivial⟩, H0, ol [(0, _)], ⟨_, _, _, rfl, Rows.nil, rfl⟩, hO.row0 0 rfl⟩
 ·refine skip (seq (region (o_litT (en := (eSl (eInt .i64))) 0 [] ([] : List (List Int)) hO sli25 trivial rfl rfl rfl ?_)))
  intro g cs w hr hO
  refine val (x_move (.slice A1_ p0.length c1_) rfl) ?_
  obtain ⟨ce, hs, hr2⟩ := RS.src h1_ hO
  have hm1 : (bif lim (([] : List (List Int)).length + p0.length) then some () else none) = some () := by simp [hl]
  refine o_appT (en := (eSl (eInt .i64))) (xs := ([] : List (List Int))) (ys := p0) 0 hO rfl hr rfl rfl hs hr2 sli25 rfl rfl underlying25 hm1 ?_
  intro A c cs w hr hO hm1
  refine val (x_assign (.slice A (([] : List (List Int)) ++ p0).length c) rfl) ?_
  refine nil (W.ret ?_)
  exact ⟨[_], ⟨rfl, trivial⟩, H0, ol [(0, _)], ⟨_, _, _, rfl, hr, rfl⟩, hO.row0 0 rfl⟩
theorem crc_Sum_ok {w0 : World} {H0 : IHeap} (hS : Sub H0 w0) {p0 : Str}    {res : Int} (hm0 : crc_Sum p0 = some res) :
  Ok prog 59 [(vs p0)].toArray w0 H0 (fun H' v => v = (.int .i64 res)) := by
 unfold crc_Sum at hm0
 refine ok_of_W Tryz.func59 rfl Tryz.ntmps59 (ts := [2]) rfl rfl rfl ?_
 have hO := St.start hS
 refine seq (region (val (x_assign (.int .i64 0) rfl) ?_))
 refine nil (seq (region (val (x_assign (.int .u32 4294967295) rfl) ?_)))
 refine nil (seq (seq (region (val (x_move (vs p0) rfl) ?_))))
 obtain ⟨hz1, hm0⟩ := chk hm0
 refine o_bytes hO underlying9 underlying68 underlying5 rfl hz1 ?_
 intro A2 c3 H4 w5 le6 h7 hO
 refine val (x_len rfl underlying68) ?_
 refine val (x_move (.int .i64 0) rfl) ?_
 refine nil ?_
 obtain ⟨o8, hm1, hm0⟩ := bindSome hm0
 have hO := hO.pick [] trivial
 refine W.blockLoop (fun r w => ∃ (v14 : Int) (i11 : Nat) (H9 : IHeap), v14 = o8 ∧ Le H4 H9 ∧ St w0 H0 [] H9 (ol []) w ∧ r 3 = (.int .u32 v14)) (fun k r w => ∃ (i11 : Nat) (rest12 : List Int) (v14 : Int) (H9 : IHeap), k = rest12.length ∧ List.drop i11 (bytesI p0) = rest12 ∧ crc_Sum_l1 rest12 i11 v14 = some o8 ∧ Le H4 H9 ∧ St w0 H0 [] H9 (ol []) w ∧ r 3 = (.int .u32 v14) ∧ r 8 = (.slice A2 (bytesI p0).length c3) ∧ r 9 = (.int .i64 ((bytesI p0).length : Int)) ∧ r 10 = (.int .i64 (i11 : Int))) (List.length (bytesI p0)) ?_ ?_ ?_
 ·exact ⟨0, _, 4294967295, _, rfl, rfl, hm1, Le.refl _, hO, rfl, rfl, rfl, rfl⟩
 ·
  intro k r w
  rintro ⟨i11, rest12, v14, H9, rfl, hd15, hm1, le10, hO, f3_1, f8_1, f9_1, f10_1⟩
  cases rest12 with
  | nil =>
   rw [crc_Sum_l1] at hm1
   have hlt := drop_nil hd15
   refine seq (region (val (x_lss f10_1 f9_1) ?_))
   refine nil (seq (W.cond_f (kb rfl hlt) ?_))
   refine W.exit _ rfl ?_
   obtain rfl := sj hm1
   exact ⟨v14, i11, H9, rfl, le10, hO.pick _ trivial, f3_1⟩
  | cons x13 rest12 =>
   rw [crc_Sum_l1] at hm1
   have hlt := drop_lt hd15
   have hnx := drop_next hd15
   have hinc := inc_len hlt h7.1 h7.2.1
   refine seq (region (val (x_lss f10_1 f9_1) ?_))
   refine nil (seq (W.cond_t (kb rfl hlt) ?_))
   refine skip (seq (W.block ?_))
   refine seq (region ?_)
   obtain ⟨a16, h17, hA18, hin⟩ := RS.atR (h7.up le10) hd15
   refine val (x_ia (sA f8_1 hA18) f10_1 sle68 hin) ?_
   refine val (x_ldc rfl (h17.int _ hO.sub) one5) ?_
   refine val (x_assign (.int .u8 x13) rfl) ?_
   refine nil (seq (region (val (x_move (.int .u32 v14) f3_1) ?_)))
   refine val (x_move (.int .u8 x13) rfl) ?_
   refine val (x_conv underlying5 underlying180 rfl) ?_
   refine val (x_xor rfl rfl) ?_
   refine val (x_assign (.int .u32 (ibits .xor .u32 v14 (u32w x13))) rfl) ?_
   refine nil (seq (region (val (x_move (.int .i64 0) rfl) ?_)))
   refine nil ?_
   obtain ⟨hlim2, hm1⟩ := chk hm1
   obtain ⟨o19, hm2, hm1⟩ := bindSome hm1
   have hO := hO.pick [] trivial
   refine W.blockLoop (fun r w => ∃ (v25 : Int) (i22 : Nat) (H20 : IHeap), v25 = o19 ∧ Le H9 H20 ∧ St w0 H0 [] H20 (ol []) w ∧ r 3 = (.int .u32 v25) ∧ r 8 = (.slice A2 (bytesI p0).length c3) ∧ r 9 = (.int .i64 ((bytesI p0).length : Int)) ∧ r 10 = (.int .i64 (i11 : Int))) (fun k r w => ∃ (i22 : Nat) (rest23 : Nat) (v25 : Int) (H20 : IHeap), rest23 = k ∧ Int.toNat (8 - (i22 : Int)) = rest23 ∧ crc_Sum_l2 rest23 i22 v25 = some o19 ∧ Le H9 H20 ∧ St w0 H0 [] H20 (ol []) w ∧ r 3 = (.int .u32 v25) ∧ r 8 = (.slice A2 (bytesI p0).length c3) ∧ r 9 = (.int .i64 ((bytesI p0).length : Int)) ∧ r 10 = (.int .i64 (i11 : Int)) ∧ r 18 = (.int .i64 (i22 : Int))) (Int.toNat 8) ?_ ?_ ?_
   ·exact ⟨0, _, ibits .xor .u32 v14 (u32w x13), _, rfl, cnt_init _, hm2, Le.refl _, hO, rfl, f8_1, f9_1, f10_1, rfl⟩
   ·
    intro k r w
    rintro ⟨i22, rest23, v25, H20, rfl, hd26, hm2, le21, hO, f3_2, f8_2, f9_2, f10_2, f18_2⟩
    cases rest23 with
    | zero =>
     rw [crc_Sum_l2] at hm2
     have hlt := cnt_zero hd26
     refine seq (region (val (x_lss f18_2 rfl) ?_))
     refine nil (seq (W.cond_f (kb rfl hlt) ?_))
     refine W.exit _ rfl ?_
     obtain rfl := sj hm2
     exact ⟨v25, i22, H20, rfl, le21, hO.pick _ trivial, f3_2, f8_2, f9_2, f10_2⟩
    | succ rest23 =>
     rw [crc_Sum_l2] at hm2
     have hlt := cnt_lt hd26
     have hnx := cnt_next hd26
     have hinc := inc_lim hlt hlim2
     refine seq (region (val (x_lss f18_2 rfl) ?_))
     refine nil (seq (W.cond_t (kb rfl hlt) ?_))
     refine skip (seq (W.block ?_))
     refine seq (region (val (x_move (.int .u32 v25) f3_2) ?_))
     refine val (x_and rfl rfl) ?_
     refine val (x_assign (.int .u32 (ibits .and .u32 v25 1)) rfl) ?_
     refine nil (seq (region (val (x_move (.int .u32 v25) f3_2) ?_)))
     refine val (x_shr rfl rfl rfl) ?_
     refine val (x_assign (.int .u32 (Int.fdiv v25 (2 ^ Int.toNat 1))) rfl) ?_
     refine nil (region (val (x_move (.int .u32 (Int.fdiv v25 (2 ^ Int.toNat 1))) rfl) ?_))
     refine val (x_move (.int .u32 (ibits .and .u32 v25 1)) rfl) ?_
     refine val (x_mul rfl rfl) ?_
     refine val (x_xor rfl rfl) ?_
     refine val (x_assign (.int .u32 (ibits .xor .u32 (Int.fdiv v25 (2 ^ Int.toNat 1)) (u32w (3988292384 * (ibits .and .u32 v25 1))))) rfl) ?_
     refine nil (region (val (x_add f18_2 rfl) ?_))
     refine val (x_move (.int .i64 (i64w ((i22 : Int) + 1))) rfl) ?_
     refine nil ?_
     exact ⟨_, Nat.lt_succ_self _, i22 + 1, rest23, ibits .xor .u32 (Int.fdiv v25 (2 ^ Int.toNat 1)) (u32w (3988292384 * (ibits .and .u32 v25 1))), H20, rfl, hnx, hm2, le21, hO.pick _ trivial, rfl, f8_2, f9_2, f10_2, (incv hinc)⟩
   ·intro r w
    rintro ⟨v29, i30, H27, rfl, le28, hO, f31, f32, f33, f34⟩
    refine region (val (x_add f34 rfl) ?_)
    refine val (x_move (.int .i64 (i64w ((i11 : Int) + 1))) rfl) ?_
    refine nil ?_
    exact ⟨_, Nat.lt_succ_self _, i11 + 1, rest12, v29, H27, rfl, hnx, hm1, (le10.trans le28), hO.pick _ trivial, f31, f32, f33, (incv hinc)⟩
 ·intro r w
  rintro ⟨v37, i38, H35, rfl, le36, hO, f39⟩
  refine seq (region (val (x_move (.int .u32 v37) f39) ?_))
  refine val (x_xor rfl rfl) ?_
  refine val (x_conv underlying180 underlying3 rfl) ?_
  refine val (x_assign (.int .i64 (i64w (ibits .xor .u32 v37 4294967295))) rfl) ?_
  refine nil (W.ret ?_)
  obtain rfl := sj hm0
  exact ⟨H35, rfl, hO.done⟩
theorem wire_numbers_ok {w0 : World} {H0 : IHeap} (hS : Sub H0 w0) {p0 : ApiMsg}  {A1_ : Option Addr} {c1_ : Nat} (h1_ : RS (eInt .i64) H0 A1_ c1_ p0.Vec) {res : (List Int)} (hm0 : wire_numbers p0 = some res) :
  OkO prog 131 [(.agg #[(.int .i64 p0.Kind), (.int .i64 p0.From), (.int .i64 p0.To), (.int .i64 p0.Seq), (.int .i64 p0.Batch), (.int .i64 p0.Layer), (.int .i64 p0.Token), (.int .i64 p0.Rank), (.int .i64 p0.Expert), (.int .i64 p0.Epoch), (.slice A1_ p0.Vec.length c1_)])].toArray w0 H0 (fun H' O' v => ∃ (A : Option Addr) (c : Nat) (cs : List Value), v = .slice A res.length c ∧ Rows (eInt .i64) H' cs res ∧ O' 0 = some (.row A c 3 (eInt .i64).size res.length cs)) := by
 unfold wire_numbers at hm0
 refine (okO_of_W Tryz.func131 rfl Tryz.ntmps131 (rs := [.tmp 2]) rfl rfl ?_)
 have hO := St.start hS
 refine seq (region (o_box 0 [(.int .i64 p0.Kind), (.int .i64 p0.From), (.int .i64 p0.To), (.int .i64 p0.Seq), (.int .i64 p0.Batch), (.int .i64 p0.Layer), (.int .i64 p0.Token), (.int .i64 p0.Rank), (.int .i64 p0.Expert), (.int .i64 p0.Epoch), (.slice A1_ p0.Vec.length c1_)] hO rfl ?_))
 intro g1 w2 hO
 refine val (x_assign (.slice none 0 0) rfl) ?_
 refine nil (seq (region (val (x_fa rfl fo109_0) ?_)))
 refine val (x_ld 0 (.int .i64 p0.Kind) hO rfl rfl rfl one3) ?_
 refine val (x_fa rfl fo109_1) ?_
 refine val (x_ld 0 (.int .i64 p0.From) hO rfl rfl rfl one3) ?_
 refine val (x_fa rfl fo109_2) ?_
 refine val (x_ld 0 (.int .i64 p0.To) hO rfl rfl rfl one3) ?_
 refine val (x_fa rfl fo109_3) ?_
 refine val (x_ld 0 (.int .i64 p0.Seq) hO rfl rfl rfl one3) ?_
 refine val (x_fa rfl fo109_4) ?_
 refine val (x_ld 0 (.int .i64 p0.Batch) hO rfl rfl rfl one3) ?_
 refine val (x_fa rfl fo109_5) ?_
 refine val (x_ld 0 (.int .i64 p0.Layer) hO rfl rfl rfl one3) ?_
 refine val (x_fa rfl fo109_6) ?_
 refine val (x_ld 0 (.int .i64 p0.Token) hO rfl rfl rfl one3) ?_
 refine val (x_fa rfl fo109_7) ?_
 refine val (x_ld 0 (.int .i64 p0.Rank) hO rfl rfl rfl one3) ?_
 refine val (x_fa rfl fo109_8) ?_
 refine val (x_ld 0 (.int .i64 p0.Expert) hO rfl rfl rfl one3) ?_
 refine val (x_fa rfl fo109_9) ?_
 refine val (x_ld 0 (.int .i64 p0.Epoch) hO rfl rfl rfl one3) ?_
 refine o_litT (en := (eInt .i64)) 1 [(.int .i64 p0.Kind), (.int .i64 p0.From), (.int .i64 p0.To), (.int .i64 p0.Seq), (.int .i64 p0.Batch), (.int .i64 p0.Layer), (.int .i64 p0.Token), (.int .i64 p0.Rank), (.int .i64 p0.Expert), (.int .i64 p0.Epoch)] ([p0.Kind, p0.From, p0.To, p0.Seq, p0.Batch, p0.Layer, p0.Token, p0.Rank, p0.Expert, p0.Epoch] : List Int) hO sli61 ⟨rfl, rfl, rfl, rfl, rfl, rfl, rfl, rfl, rfl, rfl, trivial⟩ rfl rfl rfl ?_
 intro g3 cs4 w5 hr6 hO
 refine val (x_assign (.slice (some ⟨g3, 0, none⟩) ([p0.Kind, p0.From, p0.To, p0.Seq, p0.Batch, p0.Layer, p0.Token, p0.Rank, p0.Expert, p0.Epoch] : List Int).length ([p0.Kind, p0.From, p0.To, p0.Seq, p0.Batch, p0.Layer, p0.Token, p0.Rank, p0.Expert, p0.Epoch] : List Int).length) rfl) ?_
 refine nil (W.ret ?_)
 obtain rfl := sj hm0
 exact ⟨[_], ⟨rfl, trivial⟩, H0, ol [(0, _)], ⟨_, _, _, rfl, hr6, rfl⟩, hO.row0 1 rfl⟩
theorem wire_Right_ok {w0 : World} {H0 : IHeap} (hS : Sub H0 w0) {p0 : ApiMsg}  {A1_ : Option Addr} {c1_ : Nat} (h1_ : RS (eInt .i64) H0 A1_ c1_ p0.Vec) {res : Bool} (hm0 : wire_Right p0 = some res) :
  Ok prog 94 [(.agg #[(.int .i64 p0.Kind), (.int .i64 p0.From), (.int .i64 p0.To), (.int .i64 p0.Seq), (.int .i64 p0.Batch), (.int .i64 p0.Layer), (.int .i64 p0.Token), (.int .i64 p0.Rank), (.int .i64 p0.Expert), (.int .i64 p0.Epoch), (.slice A1_ p0.Vec.length c1_)])].toArray w0 H0 (fun H' v => v = (.bool res)) := by
 unfold wire_Right at hm0
 refine ok_of_W Tryz.func94 rfl Tryz.ntmps94 (ts := [2]) rfl rfl rfl ?_
 have hO := St.start hS
 refine seq (region (o_box 0 [(.int .i64 p0.Kind), (.int .i64 p0.From), (.int .i64 p0.To), (.int .i64 p0.Seq), (.int .i64 p0.Batch), (.int .i64 p0.Layer), (.int .i64 p0.Token), (.int .i64 p0.Rank), (.int .i64 p0.Expert), (.int .i64 p0.Epoch), (.slice A1_ p0.Vec.length c1_)] hO rfl ?_))
 intro g1 w2 hO
 refine val (x_assign (.bool false) rfl) ?_
 refine nil (seq (seq (region (val (x_lds 0 [(.int .i64 p0.Kind), (.int .i64 p0.From), (.int .i64 p0.To), (.int .i64 p0.Seq), (.int .i64 p0.Batch), (.int .i64 p0.Layer), (.int .i64 p0.Token), (.int .i64 p0.Rank), (.int .i64 p0.Expert), (.int .i64 p0.Epoch), (.slice A1_ p0.Vec.length c1_)] hO rfl rfl agg109 rfl rfl) ?_))))
 obtain ⟨t3, ht4, hm0⟩ := bindSome hm0
 refine o_callO hO go131 (wire_numbers_ok hO.sub h1_ ht4) rfl ?_
 rintro _ H5 O13 w6 le7 ⟨A8, c9, cs10, rfl, hr11, hk12⟩ hO'
 have hO := hO.callRow hO' 1 0 _ hk12; clear hO'
 refine val (x_len rfl underlying61) ?_
 refine val (x_move (.int .i64 0) rfl) ?_
 refine nil ?_
 obtain ⟨H14, le15, h16, hO⟩ := hO.freezeRow (en := (eInt .i64)) 1 rfl rfl rfl hr11
 obtain ⟨o17, hm1, hm0⟩ := bindSome hm0
 have hO := hO.pick [(0, .blk g1 [(.int .i64 p0.Kind), (.int .i64 p0.From), (.int .i64 p0.To), (.int .i64 p0.Seq), (.int .i64 p0.Batch), (.int .i64 p0.Layer), (.int .i64 p0.Token), (.int .i64 p0.Rank), (.int .i64 p0.Expert), (.int .i64 p0.Epoch), (.slice A1_ p0.Vec.length c1_)] 109)] ⟨rfl, trivial⟩
 refine W.blockLoop (fun r w => ∃ (i20 : Nat) (H18 : IHeap), .out () = o17 ∧ Le H14 H18 ∧ St w0 H0 [] H18 (ol [(0, .blk g1 [(.int .i64 p0.Kind), (.int .i64 p0.From), (.int .i64 p0.To), (.int .i64 p0.Seq), (.int .i64 p0.Batch), (.int .i64 p0.Layer), (.int .i64 p0.Token), (.int .i64 p0.Rank), (.int .i64 p0.Expert), (.int .i64 p0.Epoch), (.slice A1_ p0.Vec.length c1_)] 109)]) w ∧ r 1 = (.pointer (some ⟨g1, 0, none⟩))) (fun k r w => ∃ (i20 : Nat) (rest21 : List Int) (H18 : IHeap), k = rest21.length ∧ List.drop i20 t3 = rest21 ∧ wire_Right_l1 rest21 i20 = some o17 ∧ Le H14 H18 ∧ St w0 H0 [] H18 (ol [(0, .blk g1 [(.int .i64 p0.Kind), (.int .i64 p0.From), (.int .i64 p0.To), (.int .i64 p0.Seq), (.int .i64 p0.Batch), (.int .i64 p0.Layer), (.int .i64 p0.Token), (.int .i64 p0.Rank), (.int .i64 p0.Expert), (.int .i64 p0.Epoch), (.slice A1_ p0.Vec.length c1_)] 109)]) w ∧ r 1 = (.pointer (some ⟨g1, 0, none⟩)) ∧ r 8 = (.slice A8 t3.length c9) ∧ r 9 = (.int .i64 (t3.length : Int)) ∧ r 10 = (.int .i64 (i20 : Int))) (List.length t3) ?_ ?_ ?_
 ·exact ⟨0, _, _, rfl, rfl, hm1, Le.refl _, hO, rfl, rfl, rfl, rfl⟩
 ·
  intro k r w
  rintro ⟨i20, rest21, H18, rfl, hd23, hm1, le19, hO, f1_1, f8_1, f9_1, f10_1⟩
  cases rest21 with
  | nil =>
   rw [wire_Right_l1] at hm1
   have hlt := drop_nil hd23
   refine seq (region (val (x_lss f10_1 f9_1) ?_))
   refine nil (seq (W.cond_f (kb rfl hlt) ?_))
   refine W.exit _ rfl ?_
   obtain rfl := sj hm1
   exact ⟨i20, H18, rfl, le19, hO.pick _ ⟨rfl, trivial⟩, f1_1⟩
  | cons x22 rest21 =>
   rw [wire_Right_l1] at hm1
   have hlt := drop_lt hd23
   have hnx := drop_next hd23
   have hinc := inc_len hlt h16.1 h16.2.1
   refine seq (region (val (x_lss f10_1 f9_1) ?_))
   refine nil (seq (W.cond_t (kb rfl hlt) ?_))
   refine skip (seq (W.block ?_))
   refine seq (region ?_)
   obtain ⟨a24, h25, hA26, hin⟩ := RS.atR (h16.up le19) hd23
   refine val (x_ia (sA f8_1 hA26) f10_1 sle61 hin) ?_
   refine val (x_ldc rfl (h25.int _ hO.sub) one3) ?_
   refine val (x_assign (.int .i64 x22) rfl) ?_
   refine nil (seq (region (val (x_move (.int .i64 x22) rfl) ?_)))
   refine val (x_lss rfl rfl) ?_
   refine val (x_move (.bool (decide (x22 < 0))) rfl) ?_
   refine gval rfl rfl (fun hb => x_move (.int .i64 x22) rfl) ?_
   refine gval rfl rfl (fun hb => x_gtr (gv hb) rfl) ?_
   refine val (x_pick rfl (.bool ((decide (x22 < 0)) || (decide (2147483647 < x22)))) pick_or) ?_
   refine nil (test rfl hm1 ?_ ?_)
   ·intro hb27 hm1
    refine seq (region (val (x_assign (.bool false) rfl) ?_))
    refine nil (W.ret ?_)
    obtain rfl := sj hm1
    dsimp only at hm0
    obtain rfl := sj hm0
    exact ⟨H18, rfl, hO.done⟩
   ·intro hb27 hm1
    refine skip (region (val (x_add f10_1 rfl) ?_))
    refine val (x_move (.int .i64 (i64w ((i20 : Int) + 1))) rfl) ?_
    refine nil ?_
    exact ⟨_, Nat.lt_succ_self _, i20 + 1, rest21, H18, rfl, hnx, hm1, le19, hO.pick _ ⟨rfl, trivial⟩, f1_1, f8_1, f9_1, (incv hinc)⟩
 ·intro r w
  rintro ⟨i30, H28, rfl, le29, hO, f31⟩
  dsimp only at hm0
  refine seq (seq (region (val (x_fa f31 fo109_10) ?_)))
  refine val (x_ld 0 (.slice A1_ p0.Vec.length c1_) hO rfl rfl rfl one61) ?_
  refine val (x_len rfl underlying61) ?_
  refine val (x_move (.int .i64 0) rfl) ?_
  refine nil ?_
  obtain ⟨o32, hm1, hm0⟩ := bindSome hm0
  have hO := hO.pick [(0, .blk g1 [(.int .i64 p0.Kind), (.int .i64 p0.From), (.int .i64 p0.To), (.int .i64 p0.Seq), (.int .i64 p0.Batch), (.int .i64 p0.Layer), (.int .i64 p0.Token), (.int .i64 p0.Rank), (.int .i64 p0.Expert), (.int .i64 p0.Epoch), (.slice A1_ p0.Vec.length c1_)] 109)] ⟨rfl, trivial⟩
  refine W.blockLoop (fun r w => ∃ (i35 : Nat) (H33 : IHeap), .out () = o32 ∧ Le H28 H33 ∧ St w0 H0 [] H33 (ol [(0, .blk g1 [(.int .i64 p0.Kind), (.int .i64 p0.From), (.int .i64 p0.To), (.int .i64 p0.Seq), (.int .i64 p0.Batch), (.int .i64 p0.Layer), (.int .i64 p0.Token), (.int .i64 p0.Rank), (.int .i64 p0.Expert), (.int .i64 p0.Epoch), (.slice A1_ p0.Vec.length c1_)] 109)]) w ∧ r 1 = (.pointer (some ⟨g1, 0, none⟩))) (fun k r w => ∃ (i35 : Nat) (rest36 : List Int) (H33 : IHeap), k = rest36.length ∧ List.drop i35 p0.Vec = rest36 ∧ wire_Right_l2 rest36 i35 = some o32 ∧ Le H28 H33 ∧ St w0 H0 [] H33 (ol [(0, .blk g1 [(.int .i64 p0.Kind), (.int .i64 p0.From), (.int .i64 p0.To), (.int .i64 p0.Seq), (.int .i64 p0.Batch), (.int .i64 p0.Layer), (.int .i64 p0.Token), (.int .i64 p0.Rank), (.int .i64 p0.Expert), (.int .i64 p0.Epoch), (.slice A1_ p0.Vec.length c1_)] 109)]) w ∧ r 1 = (.pointer (some ⟨g1, 0, none⟩)) ∧ r 22 = (.slice A1_ p0.Vec.length c1_) ∧ r 23 = (.int .i64 (p0.Vec.length : Int)) ∧ r 24 = (.int .i64 (i35 : Int))) (List.length p0.Vec) ?_ ?_ ?_
  ·exact ⟨0, _, _, rfl, rfl, hm1, Le.refl _, hO, f31, rfl, rfl, rfl⟩
  ·
   intro k r w
   rintro ⟨i35, rest36, H33, rfl, hd38, hm1, le34, hO, f1_2, f22_2, f23_2, f24_2⟩
   cases rest36 with
   | nil =>
    rw [wire_Right_l2] at hm1
    have hlt := drop_nil hd38
    refine seq (region (val (x_lss f24_2 f23_2) ?_))
    refine nil (seq (W.cond_f (kb rfl hlt) ?_))
    refine W.exit _ rfl ?_
    obtain rfl := sj hm1
    exact ⟨i35, H33, rfl, le34, hO.pick _ ⟨rfl, trivial⟩, f1_2⟩
   | cons x37 rest36 =>
    rw [wire_Right_l2] at hm1
    have hlt := drop_lt hd38
    have hnx := drop_next hd38
    have hinc := inc_len hlt (h1_.up (le7.trans (le15.trans le29))).1 (h1_.up (le7.trans (le15.trans le29))).2.1
    refine seq (region (val (x_lss f24_2 f23_2) ?_))
    refine nil (seq (W.cond_t (kb rfl hlt) ?_))
    refine skip (seq (W.block ?_))
    refine seq (region ?_)
    obtain ⟨a39, h40, hA41, hin⟩ := RS.atR (h1_.up (le7.trans (le15.trans (le29.trans le34)))) hd38
    refine val (x_ia (sA f22_2 hA41) f24_2 sle61 hin) ?_
    refine val (x_ldc rfl (h40.int _ hO.sub) one3) ?_
    refine val (x_assign (.int .i64 x37) rfl) ?_
    refine nil (seq (region (val (x_move (.int .i64 x37) rfl) ?_)))
    refine val (x_lss rfl rfl) ?_
    refine val (x_move (.bool (decide (x37 < (-2147483648)))) rfl) ?_
    refine gval rfl rfl (fun hb => x_move (.int .i64 x37) rfl) ?_
    refine gval rfl rfl (fun hb => x_gtr (gv hb) rfl) ?_
    refine val (x_pick rfl (.bool ((decide (x37 < (-2147483648))) || (decide (2147483647 < x37)))) pick_or) ?_
    refine nil (test rfl hm1 ?_ ?_)
    ·intro hb42 hm1
     refine seq (region (val (x_assign (.bool false) rfl) ?_))
     refine nil (W.ret ?_)
     obtain rfl := sj hm1
     dsimp only at hm0
     obtain rfl := sj hm0
     exact ⟨H33, rfl, hO.done⟩
    ·intro hb42 hm1
     refine skip (region (val (x_add f24_2 rfl) ?_))
     refine val (x_move (.int .i64 (i64w ((i35 : Int) + 1))) rfl) ?_
     refine nil ?_
     exact ⟨_, Nat.lt_succ_self _, i35 + 1, rest36, H33, rfl, hnx, hm1, le34, hO.pick _ ⟨rfl, trivial⟩, f1_2, f22_2, f23_2, (incv hinc)⟩
  ·intro r w
   rintro ⟨i45, H43, rfl, le44, hO, f46⟩
   dsimp only at hm0
   refine seq (region (val (x_fa f46 fo109_0) ?_))
   refine val (x_ld 0 (.int .i64 p0.Kind) hO rfl rfl rfl one3) ?_
   refine val (x_geq rfl rfl) ?_
   refine val (x_move (.bool (decide (1 ≤ p0.Kind))) rfl) ?_
   refine gval rfl rfl (fun hb => x_fa f46 fo109_0) ?_
   refine gval rfl rfl (fun hb => x_ld 0 (.int .i64 p0.Kind) hO rfl (gv hb) rfl one3) ?_
   refine gval rfl rfl (fun hb => x_leq (gv hb) rfl) ?_
   refine val (x_pick rfl (.bool ((decide (1 ≤ p0.Kind)) && (decide (p0.Kind ≤ 4)))) pick_and) ?_
   refine val (x_move (.bool ((decide (1 ≤ p0.Kind)) && (decide (p0.Kind ≤ 4)))) rfl) ?_
   refine gval rfl rfl (fun hb => x_fa f46 fo109_10) ?_
   refine gval rfl rfl (fun hb => x_ld 0 (.slice A1_ p0.Vec.length c1_) hO rfl (gv hb) rfl one61) ?_
   refine gval rfl rfl (fun hb => x_len (gv hb) underlying61) ?_
   refine gval rfl rfl (fun hb => x_leq (gv hb) rfl) ?_
   refine val (x_pick rfl (.bool (((decide (1 ≤ p0.Kind)) && (decide (p0.Kind ≤ 4))) && (decide ((p0.Vec.length : Int) ≤ 8)))) pick_and) ?_
   refine val (x_assign (.bool (((decide (1 ≤ p0.Kind)) && (decide (p0.Kind ≤ 4))) && (decide ((p0.Vec.length : Int) ≤ 8)))) rfl) ?_
   refine nil (W.ret ?_)
   obtain rfl := sj hm0
   exact ⟨H43, rfl, hO.done⟩
theorem wire_four_ok {w0 : World} {H0 : IHeap} (hS : Sub H0 w0) {p0 : Int}    {res : Str} (hm0 : wire_four p0 = some res) :
  Ok prog 137 [(.int .i64 p0)].toArray w0 H0 (fun H' v => v = (vs res)) := by
 unfold wire_four at hm0
 refine ok_of_W Tryz.func137 rfl Tryz.ntmps137 (ts := [2]) rfl rfl rfl ?_
 have hO := St.start hS
 refine seq (region (val (x_assign (vs ([] : Str)) rfl) ?_))
 refine nil (seq (region (val (x_move (.int .i64 p0) rfl) ?_)))
 refine val (x_conv underlying3 underlying5 rfl) ?_
 refine val (x_move (.int .i64 p0) rfl) ?_
 refine val (x_shr rfl rfl rfl) ?_
 refine val (x_conv underlying3 underlying5 rfl) ?_
 refine val (x_move (.int .i64 p0) rfl) ?_
 refine val (x_shr rfl rfl rfl) ?_
 refine val (x_conv underlying3 underlying5 rfl) ?_
 refine val (x_move (.int .i64 p0) rfl) ?_
 refine val (x_shr rfl rfl rfl) ?_
 refine val (x_conv underlying3 underlying5 rfl) ?_
 refine o_litT (en := (eInt .u8)) 0 [(.int .u8 (u8w p0)), (.int .u8 (u8w (Int.fdiv p0 (2 ^ Int.toNat 8)))), (.int .u8 (u8w (Int.fdiv p0 (2 ^ Int.toNat 16)))), (.int .u8 (u8w (Int.fdiv p0 (2 ^ Int.toNat 24))))] ([u8w p0, u8w (Int.fdiv p0 (2 ^ Int.toNat 8)), u8w (Int.fdiv p0 (2 ^ Int.toNat 16)), u8w (Int.fdiv p0 (2 ^ Int.toNat 24))] : List Int) hO sli68 ⟨rfl, rfl, rfl, rfl, trivial⟩ rfl rfl rfl ?_
 intro g1 cs2 w3 hr4 hO
 refine val (x_str underlying68 underlying5 underlying9 rfl (Src.row (k := 0) hO rfl) hr4) ?_
 refine val (x_assign (vs (bstr ([u8w p0, u8w (Int.fdiv p0 (2 ^ Int.toNat 8)), u8w (Int.fdiv p0 (2 ^ Int.toNat 16)), u8w (Int.fdiv p0 (2 ^ Int.toNat 24))] : List Int))) rfl) ?_
 refine nil (W.ret ?_)
 obtain rfl := sj hm0
 exact ⟨H0, rfl, hO.done⟩
theorem wire_Put_ok {w0 : World} {H0 : IHeap} (hS : Sub H0 w0) {p0 : ApiMsg}  {A1_ : Option Addr} {c1_ : Nat} (h1_ : RS (eInt .i64) H0 A1_ c1_ p0.Vec) {res : Str × Int} (hm0 : wire_Put p0 = some res) :
  Ok prog 102 [(.agg #[(.int .i64 p0.Kind), (.int .i64 p0.From), (.int .i64 p0.To), (.int .i64 p0.Seq), (.int .i64 p0.Batch), (.int .i64 p0.Layer), (.int .i64 p0.Token), (.int .i64 p0.Rank), (.int .i64 p0.Expert), (.int .i64 p0.Epoch), (.slice A1_ p0.Vec.length c1_)])].toArray w0 H0 (fun H' v => v = (.tuple #[(vs res.1), (.int .i64 res.2)])) := by
 unfold wire_Put at hm0
 refine ok_of_W Tryz.func102 rfl Tryz.ntmps102 (ts := [2, 3]) rfl rfl rfl ?_
 have hO := St.start hS
 refine seq (region (o_box 0 [(.int .i64 p0.Kind), (.int .i64 p0.From), (.int .i64 p0.To), (.int .i64 p0.Seq), (.int .i64 p0.Batch), (.int .i64 p0.Layer), (.int .i64 p0.Token), (.int .i64 p0.Rank), (.int .i64 p0.Expert), (.int .i64 p0.Epoch), (.slice A1_ p0.Vec.length c1_)] hO rfl ?_))
 intro g1 w2 hO
 refine val (x_assign (vs ([] : Str)) rfl) ?_
 refine val (x_assign (.int .i64 0) rfl) ?_
 refine nil (seq (seq (region (val (x_lds 0 [(.int .i64 p0.Kind), (.int .i64 p0.From), (.int .i64 p0.To), (.int .i64 p0.Seq), (.int .i64 p0.Batch), (.int .i64 p0.Layer), (.int .i64 p0.Token), (.int .i64 p0.Rank), (.int .i64 p0.Expert), (.int .i64 p0.Epoch), (.slice A1_ p0.Vec.length c1_)] hO rfl rfl agg109 rfl rfl) ?_))))
 obtain ⟨t3, ht4, hm0⟩ := bindSome hm0
 refine o_call hO go94 (wire_Right_ok hO.sub h1_ ht4) rfl ?_
 rintro _ H5 w6 le7 rfl hO
 refine val (x_not rfl) ?_
 refine nil (test rfl hm0 ?_ ?_)
 ·intro hb8 hm0
  refine seq (region (val (x_assign (vs ([] : Str)) rfl) ?_))
  refine val (x_assign (.int .i64 1) rfl) ?_
  refine nil (W.ret ?_)
  obtain rfl := sj hm0
  exact ⟨H5, rfl, hO.done⟩
 ·intro hb8 hm0
  refine skip (seq (region (val (x_assign (vs ([] : Str)) rfl) ?_)))
  refine nil (seq (seq ?_))
  have hO := hO.pick [(0, .blk g1 [(.int .i64 p0.Kind), (.int .i64 p0.From), (.int .i64 p0.To), (.int .i64 p0.Seq), (.int .i64 p0.Batch), (.int .i64 p0.Layer), (.int .i64 p0.Token), (.int .i64 p0.Rank), (.int .i64 p0.Expert), (.int .i64 p0.Epoch), (.slice A1_ p0.Vec.length c1_)] 109)] ⟨rfl, trivial⟩
  refine W.draw (SD w0 H0 [] H5 [(0, .blk g1 [(.int .i64 p0.Kind), (.int .i64 p0.From), (.int .i64 p0.To), (.int .i64 p0.Seq), (.int .i64 p0.Batch), (.int .i64 p0.Layer), (.int .i64 p0.Token), (.int .i64 p0.Rank), (.int .i64 p0.Expert), (.int .i64 p0.Epoch), (.slice A1_ p0.Vec.length c1_)] 109)]) (fun i => ([] : List Nat).contains i) mixed 12 rfl _ rfl ?_
  intro w9 hh1 hh2 hh3 hh4; have hO := hO.same hh1 hh2 hh3 hh4; clear hh1 hh2 hh3 hh4
  have hS : SD w0 H0 [] H5 [(0, .blk g1 [(.int .i64 p0.Kind), (.int .i64 p0.From), (.int .i64 p0.To), (.int .i64 p0.Seq), (.int .i64 p0.Batch), (.int .i64 p0.Layer), (.int .i64 p0.Token), (.int .i64 p0.Rank), (.int .i64 p0.Expert), (.int .i64 p0.Epoch), (.slice A1_ p0.Vec.length c1_)] 109)] w9 := ⟨_, _, Le.refl _, hO, ⟨rfl, trivial⟩⟩
  refine take (i := 0) rfl (by kernel_rfl) (fun w hS => x_ldsD 0 [(.int .i64 p0.Kind), (.int .i64 p0.From), (.int .i64 p0.To), (.int .i64 p0.Seq), (.int .i64 p0.Batch), (.int .i64 p0.Layer), (.int .i64 p0.Token), (.int .i64 p0.Rank), (.int .i64 p0.Expert), (.int .i64 p0.Epoch), (.slice A1_ p0.Vec.length c1_)] hS rfl rfl agg109 rfl rfl) hS ?_
  refine take (i := 2) rfl (by kernel_rfl) (fun w hS => x_fa rfl fo109_10) hS ?_
  refine take (i := 3) rfl (by kernel_rfl) (fun w hS => x_ldD 0 (.slice A1_ p0.Vec.length c1_) hS rfl rfl rfl one61) hS ?_
  refine take (i := 4) rfl (by kernel_rfl) (fun w hS => x_len rfl underlying61) hS ?_
  refine take (i := 7) rfl (by kernel_rfl) (fun w hS => x_fa rfl fo109_10) hS ?_
  refine take (i := 8) rfl (by kernel_rfl) (fun w hS => x_ldD 0 (.slice A1_ p0.Vec.length c1_) hS rfl rfl rfl one61) hS ?_
  refine take (i := 11) rfl (by kernel_rfl) (fun w hS => x_move (.int .i64 0) rfl) hS ?_
  obtain ⟨t10, ht11, hm0⟩ := bindSome hm0
  refine WA.all [1, 5] (by kernel_rfl) (by simp) ?_
  intro i hi; simp only [List.mem_cons, List.not_mem_nil, or_false] at hi
  rcases hi with rfl | rfl
  ·refine ⟨_, rfl, ?_⟩
   refine o_callO hO go131 (wire_numbers_ok hO.sub (h1_.up le7) ht11) rfl ?_
   rintro _ H12 O20 w13 le14 ⟨A15, c16, cs17, rfl, hr18, hk19⟩ hO'
   have hO := hO.callRow hO' 1 0 _ hk19; clear hO'
   have hS : SD w0 H0 [] H5 [(0, .blk g1 [(.int .i64 p0.Kind), (.int .i64 p0.From), (.int .i64 p0.To), (.int .i64 p0.Seq), (.int .i64 p0.Batch), (.int .i64 p0.Layer), (.int .i64 p0.Token), (.int .i64 p0.Rank), (.int .i64 p0.Expert), (.int .i64 p0.Epoch), (.slice A1_ p0.Vec.length c1_)] 109)] _ := ⟨_, _, le14, hO, ⟨rfl, trivial⟩⟩
   refine nil ⟨fun _ => hS, ?_⟩
   refine WA.only (i := 5) (by kernel_rfl) rfl ?_
   refine o_litT (en := (eInt .i64)) 2 [(.int .i64 (p0.Vec.length : Int))] ([(p0.Vec.length : Int)] : List Int) hO sli61 ⟨rfl, trivial⟩ rfl rfl rfl ?_
   intro g21 cs22 w23 hr24 hO
   have hS : SD w0 H0 [] H5 [(0, .blk g1 [(.int .i64 p0.Kind), (.int .i64 p0.From), (.int .i64 p0.To), (.int .i64 p0.Seq), (.int .i64 p0.Batch), (.int .i64 p0.Layer), (.int .i64 p0.Token), (.int .i64 p0.Rank), (.int .i64 p0.Expert), (.int .i64 p0.Epoch), (.slice A1_ p0.Vec.length c1_)] 109)] _ := ⟨_, _, le14, hO, ⟨rfl, trivial⟩⟩
   refine nil ⟨fun _ => hS, ?_⟩
   refine WA.only (i := 6) (by kernel_rfl) rfl ?_
   refine o_appT (en := (eInt .i64)) (xs := t10) (ys := ([(p0.Vec.length : Int)] : List Int)) 1 hO rfl hr18 rfl rfl (Src.row (k := 2) hO rfl) hr24 sli61 rfl rfl underlying61 hm0 ?_
   intro A25 c26 cs27 w28 hr29 hO hm0
   have hS : SD w0 H0 [] H5 [(0, .blk g1 [(.int .i64 p0.Kind), (.int .i64 p0.From), (.int .i64 p0.To), (.int .i64 p0.Seq), (.int .i64 p0.Batch), (.int .i64 p0.Layer), (.int .i64 p0.Token), (.int .i64 p0.Rank), (.int .i64 p0.Expert), (.int .i64 p0.Epoch), (.slice A1_ p0.Vec.length c1_)] 109)] _ := ⟨_, _, le14, hO, ⟨rfl, trivial⟩⟩
   refine nil ⟨fun _ => hS, ?_⟩
   refine WA.only (i := 9) (by kernel_rfl) rfl ?_
   obtain ⟨cs30, hs31, hr32⟩ := RS.src (h1_.up (le7.trans le14)) hO
   refine o_appT (en := (eInt .i64)) (xs := (t10 ++ ([(p0.Vec.length : Int)] : List Int))) (ys := p0.Vec) 1 hO rfl hr29 rfl rfl hs31 hr32 sli61 rfl rfl underlying61 hm0 ?_
   intro A33 c34 cs35 w36 hr37 hO hm0
   have hS : SD w0 H0 [] H5 [(0, .blk g1 [(.int .i64 p0.Kind), (.int .i64 p0.From), (.int .i64 p0.To), (.int .i64 p0.Seq), (.int .i64 p0.Batch), (.int .i64 p0.Layer), (.int .i64 p0.Token), (.int .i64 p0.Rank), (.int .i64 p0.Expert), (.int .i64 p0.Epoch), (.slice A1_ p0.Vec.length c1_)] 109)] _ := ⟨_, _, le14, hO, ⟨rfl, trivial⟩⟩
   refine nil ⟨fun _ => hS, ?_⟩
   refine take (i := 10) rfl (by kernel_rfl) (fun w hS => x_len rfl underlying61) hS ?_
   refine WA.done (by kernel_rfl) ?_
   obtain ⟨H38, le39, h40, hO⟩ := hO.freezeRow (en := (eInt .i64)) 1 rfl rfl rfl hr37
   obtain ⟨o41, hm1, hm0⟩ := bindSome hm0
   have hO := hO.pick [] trivial
   refine W.blockLoop (fun r w => ∃ (v47 : Str) (i44 : Nat) (H42 : IHeap), v47 = o41 ∧ Le H38 H42 ∧ St w0 H0 [] H42 (ol []) w ∧ r 4 = (vs v47)) (fun k r w => ∃ (i44 : Nat) (rest45 : List Int) (v47 : Str) (H42 : IHeap), k = rest45.length ∧ List.drop i44 ((t10 ++ ([(p0.Vec.length : Int)] : List Int)) ++ p0.Vec) = rest45 ∧ wire_Put_l1 rest45 i44 v47 = some o41 ∧ Le H38 H42 ∧ St w0 H0 [] H42 (ol []) w ∧ r 4 = (vs v47) ∧ r 19 = (.slice A33 ((t10 ++ ([(p0.Vec.length : Int)] : List Int)) ++ p0.Vec).length c34) ∧ r 20 = (.int .i64 (((t10 ++ ([(p0.Vec.length : Int)] : List Int)) ++ p0.Vec).length : Int)) ∧ r 21 = (.int .i64 (i44 : Int))) (List.length ((t10 ++ ([(p0.Vec.length : Int)] : List Int)) ++ p0.Vec)) ?_ ?_ ?_
   ·exact ⟨0, _, ([] : Str), _, rfl, rfl, hm1, Le.refl _, hO, rfl, rfl, rfl, rfl⟩
   ·
    intro k r w
    rintro ⟨i44, rest45, v47, H42, rfl, hd48, hm1, le43, hO, f4_1, f19_1, f20_1, f21_1⟩
    cases rest45 with
    | nil =>
     rw [wire_Put_l1] at hm1
     have hlt := drop_nil hd48
     refine seq (region (val (x_lss f21_1 f20_1) ?_))
     refine nil (seq (W.cond_f (kb rfl hlt) ?_))
     refine W.exit _ rfl ?_
     obtain rfl := sj hm1
     exact ⟨v47, i44, H42, rfl, le43, hO.pick _ trivial, f4_1⟩
    | cons x46 rest45 =>
     rw [wire_Put_l1] at hm1
     have hlt := drop_lt hd48
     have hnx := drop_next hd48
     have hinc := inc_len hlt h40.1 h40.2.1
     refine seq (region (val (x_lss f21_1 f20_1) ?_))
     refine nil (seq (W.cond_t (kb rfl hlt) ?_))
     refine skip (seq (W.block ?_))
     refine seq (region ?_)
     obtain ⟨a49, h50, hA51, hin⟩ := RS.atR (h40.up le43) hd48
     refine val (x_ia (sA f19_1 hA51) f21_1 sle61 hin) ?_
     refine val (x_ldc rfl (h50.int _ hO.sub) one3) ?_
     refine val (x_assign (.int .i64 x46) rfl) ?_
     refine nil (region (val (x_move (vs v47) f4_1) ?_))
     refine val (x_move (.int .i64 x46) rfl) ?_
     obtain ⟨t52, ht53, hm1⟩ := bindSome hm1
     refine o_call hO go137 (wire_four_ok hO.sub  ht53) rfl ?_
     rintro _ H54 w55 le56 rfl hO
     obtain ⟨hz57, hm1⟩ := chk hm1
     refine val (x_cat rfl rfl hz57) ?_
     refine val (x_assign (vs (v47 ++ t52)) rfl) ?_
     refine nil (region (val (x_add f21_1 rfl) ?_))
     refine val (x_move (.int .i64 (i64w ((i44 : Int) + 1))) rfl) ?_
     refine nil ?_
     exact ⟨_, Nat.lt_succ_self _, i44 + 1, rest45, v47 ++ t52, H54, rfl, hnx, hm1, (le43.trans le56), hO.pick _ trivial, rfl, f19_1, f20_1, (incv hinc)⟩
   ·intro r w
    rintro ⟨v60, i61, H58, rfl, le59, hO, f62⟩
    refine seq (region (val (x_move (vs v60) f62) ?_))
    refine val (x_move (vs v60) f62) ?_
    obtain ⟨t63, ht64, hm0⟩ := bindSome hm0
    refine o_call hO go59 (crc_Sum_ok hO.sub  ht64) rfl ?_
    rintro _ H65 w66 le67 rfl hO
    obtain ⟨t68, ht69, hm0⟩ := bindSome hm0
    refine o_call hO go137 (wire_four_ok hO.sub  ht69) rfl ?_
    rintro _ H70 w71 le72 rfl hO
    obtain ⟨hz73, hm0⟩ := chk hm0
    refine val (x_cat rfl rfl hz73) ?_
    refine val (x_assign (vs (v60 ++ t68)) rfl) ?_
    refine nil (seq (region (val (x_move (vs (v60 ++ t68)) rfl) ?_)))
    refine val (x_lens rfl underlying9) ?_
    obtain ⟨t74, ht75, hm0⟩ := bindSome hm0
    refine o_call hO go137 (wire_four_ok hO.sub  ht75) rfl ?_
    rintro _ H76 w77 le78 rfl hO
    refine val (x_move (vs (v60 ++ t68)) rfl) ?_
    obtain ⟨hz79, hm0⟩ := chk hm0
    refine val (x_cat rfl rfl hz79) ?_
    refine val (x_assign (vs (t74 ++ (v60 ++ t68))) rfl) ?_
    refine val (x_assign (.int .i64 0) rfl) ?_
    refine nil (W.ret ?_)
    obtain rfl := sj hm0
    exact ⟨H76, rfl, hO.done⟩
  ·refine ⟨_, rfl, ?_⟩
   refine o_litT (en := (eInt .i64)) 3 [(.int .i64 (p0.Vec.length : Int))] ([(p0.Vec.length : Int)] : List Int) hO sli61 ⟨rfl, trivial⟩ rfl rfl rfl ?_
   intro g12 cs13 w14 hr15 hO
   have hS : SD w0 H0 [] H5 [(0, .blk g1 [(.int .i64 p0.Kind), (.int .i64 p0.From), (.int .i64 p0.To), (.int .i64 p0.Seq), (.int .i64 p0.Batch), (.int .i64 p0.Layer), (.int .i64 p0.Token), (.int .i64 p0.Rank), (.int .i64 p0.Expert), (.int .i64 p0.Epoch), (.slice A1_ p0.Vec.length c1_)] 109)] _ := ⟨_, _, (Le.refl _), hO, ⟨rfl, trivial⟩⟩
   refine nil ⟨fun _ => hS, ?_⟩
   refine WA.only (i := 1) (by kernel_rfl) rfl ?_
   refine o_callO hO go131 (wire_numbers_ok hO.sub (h1_.up le7) ht11) rfl ?_
   rintro _ H16 O24 w17 le18 ⟨A19, c20, cs21, rfl, hr22, hk23⟩ hO'
   have hO := hO.callRow hO' 4 0 _ hk23; clear hO'
   have hS : SD w0 H0 [] H5 [(0, .blk g1 [(.int .i64 p0.Kind), (.int .i64 p0.From), (.int .i64 p0.To), (.int .i64 p0.Seq), (.int .i64 p0.Batch), (.int .i64 p0.Layer), (.int .i64 p0.Token), (.int .i64 p0.Rank), (.int .i64 p0.Expert), (.int .i64 p0.Epoch), (.slice A1_ p0.Vec.length c1_)] 109)] _ := ⟨_, _, le18, hO, ⟨rfl, trivial⟩⟩
   refine nil ⟨fun _ => hS, ?_⟩
   refine WA.only (i := 6) (by kernel_rfl) rfl ?_
   refine o_appT (en := (eInt .i64)) (xs := t10) (ys := ([(p0.Vec.length : Int)] : List Int)) 4 hO rfl hr22 rfl rfl (Src.row (k := 3) hO rfl) (hr15.up le18) sli61 rfl rfl underlying61 hm0 ?_
   intro A25 c26 cs27 w28 hr29 hO hm0
   have hS : SD w0 H0 [] H5 [(0, .blk g1 [(.int .i64 p0.Kind), (.int .i64 p0.From), (.int .i64 p0.To), (.int .i64 p0.Seq), (.int .i64 p0.Batch), (.int .i64 p0.Layer), (.int .i64 p0.Token), (.int .i64 p0.Rank), (.int .i64 p0.Expert), (.int .i64 p0.Epoch), (.slice A1_ p0.Vec.length c1_)] 109)] _ := ⟨_, _, le18, hO, ⟨rfl, trivial⟩⟩
   refine nil ⟨fun _ => hS, ?_⟩
   refine WA.only (i := 9) (by kernel_rfl) rfl ?_
   obtain ⟨cs30, hs31, hr32⟩ := RS.src (h1_.up (le7.trans le18)) hO
   refine o_appT (en := (eInt .i64)) (xs := (t10 ++ ([(p0.Vec.length : Int)] : List Int))) (ys := p0.Vec) 4 hO rfl hr29 rfl rfl hs31 hr32 sli61 rfl rfl underlying61 hm0 ?_
   intro A33 c34 cs35 w36 hr37 hO hm0
   have hS : SD w0 H0 [] H5 [(0, .blk g1 [(.int .i64 p0.Kind), (.int .i64 p0.From), (.int .i64 p0.To), (.int .i64 p0.Seq), (.int .i64 p0.Batch), (.int .i64 p0.Layer), (.int .i64 p0.Token), (.int .i64 p0.Rank), (.int .i64 p0.Expert), (.int .i64 p0.Epoch), (.slice A1_ p0.Vec.length c1_)] 109)] _ := ⟨_, _, le18, hO, ⟨rfl, trivial⟩⟩
   refine nil ⟨fun _ => hS, ?_⟩
   refine take (i := 10) rfl (by kernel_rfl) (fun w hS => x_len rfl underlying61) hS ?_
   refine WA.done (by kernel_rfl) ?_
   obtain ⟨H38, le39, h40, hO⟩ := hO.freezeRow (en := (eInt .i64)) 4 rfl rfl rfl hr37
   obtain ⟨o41, hm1, hm0⟩ := bindSome hm0
   have hO := hO.pick [] trivial
   refine W.blockLoop (fun r w => ∃ (v47 : Str) (i44 : Nat) (H42 : IHeap), v47 = o41 ∧ Le H38 H42 ∧ St w0 H0 [] H42 (ol []) w ∧ r 4 = (vs v47)) (fun k r w => ∃ (i44 : Nat) (rest45 : List Int) (v47 : Str) (H42 : IHeap), k = rest45.length ∧ List.drop i44 ((t10 ++ ([(p0.Vec.length : Int)] : List Int)) ++ p0.Vec) = rest45 ∧ wire_Put_l1 rest45 i44 v47 = some o41 ∧ Le H38 H42 ∧ St w0 H0 [] H42 (ol []) w ∧ r 4 = (vs v47) ∧ r 19 = (.slice A33 ((t10 ++ ([(p0.Vec.length : Int)] : List Int)) ++ p0.Vec).length c34) ∧ r 20 = (.int .i64 (((t10 ++ ([(p0.Vec.length : Int)] : List Int)) ++ p0.Vec).length : Int)) ∧ r 21 = (.int .i64 (i44 : Int))) (List.length ((t10 ++ ([(p0.Vec.length : Int)] : List Int)) ++ p0.Vec)) ?_ ?_ ?_
   ·exact ⟨0, _, ([] : Str), _, rfl, rfl, hm1, Le.refl _, hO, rfl, rfl, rfl, rfl⟩
   ·
    intro k r w
    rintro ⟨i44, rest45, v47, H42, rfl, hd48, hm1, le43, hO, f4_1, f19_1, f20_1, f21_1⟩
    cases rest45 with
    | nil =>
     rw [wire_Put_l1] at hm1
     have hlt := drop_nil hd48
     refine seq (region (val (x_lss f21_1 f20_1) ?_))
     refine nil (seq (W.cond_f (kb rfl hlt) ?_))
     refine W.exit _ rfl ?_
     obtain rfl := sj hm1
     exact ⟨v47, i44, H42, rfl, le43, hO.pick _ trivial, f4_1⟩
    | cons x46 rest45 =>
     rw [wire_Put_l1] at hm1
     have hlt := drop_lt hd48
     have hnx := drop_next hd48
     have hinc := inc_len hlt h40.1 h40.2.1
     refine seq (region (val (x_lss f21_1 f20_1) ?_))
     refine nil (seq (W.cond_t (kb rfl hlt) ?_))
     refine skip (seq (W.block ?_))
     refine seq (region ?_)
     obtain ⟨a49, h50, hA51, hin⟩ := RS.atR (h40.up le43) hd48
     refine val (x_ia (sA f19_1 hA51) f21_1 sle61 hin) ?_
     refine val (x_ldc rfl (h50.int _ hO.sub) one3) ?_
     refine val (x_assign (.int .i64 x46) rfl) ?_
     refine nil (region (val (x_move (vs v47) f4_1) ?_))
     refine val (x_move (.int .i64 x46) rfl) ?_
     obtain ⟨t52, ht53, hm1⟩ := bindSome hm1
     refine o_call hO go137 (wire_four_ok hO.sub  ht53) rfl ?_
     rintro _ H54 w55 le56 rfl hO
     obtain ⟨hz57, hm1⟩ := chk hm1
     refine val (x_cat rfl rfl hz57) ?_
     refine val (x_assign (vs (v47 ++ t52)) rfl) ?_
     refine nil (region (val (x_add f21_1 rfl) ?_))
     refine val (x_move (.int .i64 (i64w ((i44 : Int) + 1))) rfl) ?_
     refine nil ?_
     exact ⟨_, Nat.lt_succ_self _, i44 + 1, rest45, v47 ++ t52, H54, rfl, hnx, hm1, (le43.trans le56), hO.pick _ trivial, rfl, f19_1, f20_1, (incv hinc)⟩
   ·intro r w
    rintro ⟨v60, i61, H58, rfl, le59, hO, f62⟩
    refine seq (region (val (x_move (vs v60) f62) ?_))
    refine val (x_move (vs v60) f62) ?_
    obtain ⟨t63, ht64, hm0⟩ := bindSome hm0
    refine o_call hO go59 (crc_Sum_ok hO.sub  ht64) rfl ?_
    rintro _ H65 w66 le67 rfl hO
    obtain ⟨t68, ht69, hm0⟩ := bindSome hm0
    refine o_call hO go137 (wire_four_ok hO.sub  ht69) rfl ?_
    rintro _ H70 w71 le72 rfl hO
    obtain ⟨hz73, hm0⟩ := chk hm0
    refine val (x_cat rfl rfl hz73) ?_
    refine val (x_assign (vs (v60 ++ t68)) rfl) ?_
    refine nil (seq (region (val (x_move (vs (v60 ++ t68)) rfl) ?_)))
    refine val (x_lens rfl underlying9) ?_
    obtain ⟨t74, ht75, hm0⟩ := bindSome hm0
    refine o_call hO go137 (wire_four_ok hO.sub  ht75) rfl ?_
    rintro _ H76 w77 le78 rfl hO
    refine val (x_move (vs (v60 ++ t68)) rfl) ?_
    obtain ⟨hz79, hm0⟩ := chk hm0
    refine val (x_cat rfl rfl hz79) ?_
    refine val (x_assign (vs (t74 ++ (v60 ++ t68))) rfl) ?_
    refine val (x_assign (.int .i64 0) rfl) ?_
    refine nil (W.ret ?_)
    obtain rfl := sj hm0
    exact ⟨H76, rfl, hO.done⟩
end Go.Sw

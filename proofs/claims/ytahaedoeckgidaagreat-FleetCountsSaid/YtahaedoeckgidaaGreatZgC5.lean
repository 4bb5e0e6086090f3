/- The calls compute the mirrors. -/
import Derived.Test.YtahaedoeckgidaaGreatZgF
import Derived.Test.YtahaedoeckgidaaGreatZgC1
import Derived.Test.YtahaedoeckgidaaGreatZgC4
set_option linter.unusedVariables false
set_option linter.unusedSimpArgs false
set_option maxRecDepth 100000
namespace Go.Sw
open WL (val nil gval yes no)
open W (region test seq skip)
open WA (take)
open Go.Proofs.Tryz
open Go.Proofs
theorem top_beside_ok {w0 : World} {H0 : IHeap} (hS : Sub H0 w0) {p0 : List Int} {p1 : Int}  {A1_ : Option Addr} {c1_ : Nat} (h1_ : RS (eInt .i64) H0 A1_ c1_ p0) {res : Int} (hm0 : top_beside p0 p1 = some res) :
  Ok prog 173 [(.slice A1_ p0.length c1_), (.int .i64 p1)].toArray w0 H0 (fun H' v => v = (.int .i64 res)) := by
 unfold top_beside at hm0
 refine ok_of_W Tryz.func173 rfl Tryz.ntmps173 (ts := [4]) rfl rfl rfl ?_
 have hO := St.start hS
 refine seq (region (val (x_assign (.int .i64 0) rfl) ?_))
 refine nil (seq (region (val (x_assign (.int .i64 (-1)) rfl) ?_)))
 refine nil (seq (seq (region (val (x_move (.slice A1_ p0.length c1_) rfl) ?_))))
 refine val (x_len rfl underlying61) ?_
 refine val (x_move (.int .i64 0) rfl) ?_
 refine nil ?_
 obtain ⟨o1, hm1, hm0⟩ := bindSome hm0
 have hO := hO.pick [] trivial
 refine W.blockLoop (fun r w => ∃ (v7 : Int) (i4 : Nat) (H2 : IHeap), v7 = o1 ∧ Le H0 H2 ∧ St w0 H0 [] H2 (ol []) w ∧ r 5 = (.int .i64 v7)) (fun k r w => ∃ (i4 : Nat) (rest5 : List Int) (v7 : Int) (H2 : IHeap), k = rest5.length ∧ List.drop i4 p0 = rest5 ∧ top_beside_l1 p0 p1 rest5 i4 v7 = some o1 ∧ Le H0 H2 ∧ St w0 H0 [] H2 (ol []) w ∧ r 0 = (.slice A1_ p0.length c1_) ∧ r 1 = (.int .i64 p1) ∧ r 5 = (.int .i64 v7) ∧ r 8 = (.slice A1_ p0.length c1_) ∧ r 9 = (.int .i64 (p0.length : Int)) ∧ r 10 = (.int .i64 (i4 : Int))) (List.length p0) ?_ ?_ ?_
 ·exact ⟨0, _, (-1), _, rfl, rfl, hm1, Le.refl _, hO, rfl, rfl, rfl, rfl, rfl, rfl⟩
 ·
  intro k r w
  rintro ⟨i4, rest5, v7, H2, rfl, hd8, hm1, le3, hO, f0_1, f1_1, f5_1, f8_1, f9_1, f10_1⟩
  cases rest5 with
  | nil =>
   rw [top_beside_l1] at hm1
   have hlt := drop_nil hd8
   refine seq (region (val (x_lss f10_1 f9_1) ?_))
   refine nil (seq (W.cond_f (kb rfl hlt) ?_))
   refine W.exit _ rfl ?_
   obtain rfl := sj hm1
   exact ⟨v7, i4, H2, rfl, le3, hO.pick _ trivial, f5_1⟩
  | cons x6 rest5 =>
   rw [top_beside_l1] at hm1
   have hlt := drop_lt hd8
   have hnx := drop_next hd8
   have hinc := inc_len hlt h1_.1 h1_.2.1
   refine seq (region (val (x_lss f10_1 f9_1) ?_))
   refine nil (seq (W.cond_t (kb rfl hlt) ?_))
   refine skip (seq (W.block ?_))
   refine seq (region (val (x_move (.int .i64 (i4 : Int)) f10_1) ?_))
   obtain ⟨a9, h10, hA11, hin⟩ := RS.atR (h1_.up le3) hd8
   refine val (x_ia (sA f8_1 hA11) f10_1 sle61 hin) ?_
   refine val (x_ldc rfl (h10.int _ hO.sub) one3) ?_
   refine val (x_assign (.int .i64 (i4 : Int)) rfl) ?_
   refine val (x_assign (.int .i64 x6) rfl) ?_
   refine nil (seq (region (val (x_move (.int .i64 (i4 : Int)) rfl) ?_)))
   refine val (x_move (.int .i64 p1) f1_1) ?_
   refine val (x_neq rfl rfl) ?_
   refine val (x_move (.bool ((i4 : Int) != p1)) rfl) ?_
   refine gval rfl rfl (fun hb => x_move (.int .i64 v7) f5_1) ?_
   refine gval rfl rfl (fun hb => x_lss (gv hb) rfl) ?_
   refine gval rfl rfl (fun hb => x_move (.bool (decide (v7 < 0))) (gv hb)) ?_
   rcases btest hm1 with ⟨hb12, hm1⟩ | ⟨hb12, hm1⟩
   ·refine gval rfl (by exact gkT hb12) (fun hb => x_move (.int .i64 x6) rfl) ?_
    refine gval rfl (by exact gkT hb12) (fun hb => x_move (.slice A1_ p0.length c1_) f0_1) ?_
    refine gval rfl (by exact gkT hb12) (fun hb => x_move (.int .i64 v7) f5_1) ?_
    rcases btest hm1 with ⟨hb13, hm1⟩ | ⟨hb13, hm1⟩
    ·refine no rfl (kb (by exact gkT hb12) hb13) rfl ?_
     refine no rfl (kb (by exact gkT hb12) hb13) rfl ?_
     refine no rfl (kb (by exact gkT hb12) hb13) rfl ?_
     refine yes rfl (kb rfl hb12) ?_
     refine val (x_pick_t (kb (by exact gkT hb12) hb13) (.bool true) rfl) ?_
     refine val (x_pick_t (kb rfl hb12) (.bool true) rfl) ?_
     refine nil (W.cond_t rfl ?_)
     refine region (val (x_move (.int .i64 (i4 : Int)) rfl) ?_)
     refine val (x_assign (.int .i64 (i4 : Int)) rfl) ?_
     refine nil (region (val (x_add f10_1 rfl) ?_))
     refine val (x_move (.int .i64 (i64w ((i4 : Int) + 1))) rfl) ?_
     refine nil ?_
     exact ⟨_, Nat.lt_succ_self _, i4 + 1, rest5, (i4 : Int), H2, rfl, hnx, hm1, le3, hO.pick _ trivial, f0_1, f1_1, rfl, f8_1, f9_1, (incv hinc)⟩
    ·refine yes rfl (kb (by exact gkT hb12) hb13) ?_
     obtain ⟨hin17, hm1⟩ := chk hm1
     obtain ⟨a14, h15, hA16⟩ := RS.at_ (h1_.up le3) hin17
     refine val (x_ia (sA (by exact gkF hb13) hA16) (by exact gkF hb13) sle61 hin17) ?_
     refine yes rfl (kb (by exact gkT hb12) hb13) ?_
     refine val (x_ldc rfl (h15.int _ hO.sub) one3) ?_
     refine yes rfl (kb (by exact gkT hb12) hb13) ?_
     refine val (x_gtr (by exact gkF hb13) rfl) ?_
     refine yes rfl (kb rfl hb12) ?_
     refine val (x_pick_f (kb (by exact gkT hb12) hb13) (.bool (decide ((at0 p0 v7) < x6))) rfl) ?_
     refine val (x_pick_t (kb rfl hb12) (.bool (decide ((at0 p0 v7) < x6))) rfl) ?_
     refine nil (test rfl hm1 ?_ ?_)
     ·intro hb18 hm1
      refine region (val (x_move (.int .i64 (i4 : Int)) rfl) ?_)
      refine val (x_assign (.int .i64 (i4 : Int)) rfl) ?_
      refine nil (region (val (x_add f10_1 rfl) ?_))
      refine val (x_move (.int .i64 (i64w ((i4 : Int) + 1))) rfl) ?_
      refine nil ?_
      exact ⟨_, Nat.lt_succ_self _, i4 + 1, rest5, (i4 : Int), H2, rfl, hnx, hm1, le3, hO.pick _ trivial, f0_1, f1_1, rfl, f8_1, f9_1, (incv hinc)⟩
     ·intro hb18 hm1
      refine skip (region (val (x_add f10_1 rfl) ?_))
      refine val (x_move (.int .i64 (i64w ((i4 : Int) + 1))) rfl) ?_
      refine nil ?_
      exact ⟨_, Nat.lt_succ_self _, i4 + 1, rest5, v7, H2, rfl, hnx, hm1, le3, hO.pick _ trivial, f0_1, f1_1, f5_1, f8_1, f9_1, (incv hinc)⟩
   ·refine WL.nou rfl (by exact gnF hb12) ?_
    refine WL.nou rfl (by exact gnF hb12) ?_
    refine WL.nou rfl (by exact gnF hb12) ?_
    refine WL.nou rfl (by exact gnF hb12) ?_
    refine WL.nou rfl (by exact gnF hb12) ?_
    refine WL.nou rfl (by exact gnF hb12) ?_
    refine no rfl (kb rfl hb12) rfl ?_
    refine val (x_pick_f (kb rfl hb12) (.bool false) rfl) ?_
    refine nil (W.cond_f rfl ?_)
    refine skip (region (val (x_add f10_1 rfl) ?_))
    refine val (x_move (.int .i64 (i64w ((i4 : Int) + 1))) rfl) ?_
    refine nil ?_
    exact ⟨_, Nat.lt_succ_self _, i4 + 1, rest5, v7, H2, rfl, hnx, hm1, le3, hO.pick _ trivial, f0_1, f1_1, f5_1, f8_1, f9_1, (incv hinc)⟩
 ·intro r w
  rintro ⟨v21, i22, H19, rfl, le20, hO, f23⟩
  refine seq (region (val (x_move (.int .i64 v21) f23) ?_))
  refine val (x_assign (.int .i64 v21) rfl) ?_
  refine nil (W.ret ?_)
  obtain rfl := sj hm0
  exact ⟨H19, rfl, hO.done⟩
theorem top_Best_ok {w0 : World} {H0 : IHeap} (hS : Sub H0 w0) {p0 : List Int}  {A1_ : Option Addr} {c1_ : Nat} (h1_ : RS (eInt .i64) H0 A1_ c1_ p0) {res : Int} (hm0 : top_Best p0 = some res) :
  Ok prog 172 [(.slice A1_ p0.length c1_)].toArray w0 H0 (fun H' v => v = (.int .i64 res)) := by
 unfold top_Best at hm0
 refine ok_of_W Tryz.func172 rfl Tryz.ntmps172 (ts := [2]) rfl rfl rfl ?_
 have hO := St.start hS
 refine seq (region (val (x_assign (.int .i64 0) rfl) ?_))
 refine nil (seq (region (val (x_move (.slice A1_ p0.length c1_) rfl) ?_)))
 obtain ⟨t1, ht2, hm0⟩ := bindSome hm0
 refine o_call hO go173 (top_beside_ok hO.sub h1_ ht2) rfl ?_
 rintro _ H3 w4 le5 rfl hO
 refine val (x_assign (.int .i64 t1) rfl) ?_
 refine nil (W.ret ?_)
 obtain rfl := sj hm0
 exact ⟨H3, rfl, hO.done⟩
theorem top_Two_ok {w0 : World} {H0 : IHeap} (hS : Sub H0 w0) {p0 : List Int}  {A1_ : Option Addr} {c1_ : Nat} (h1_ : RS (eInt .i64) H0 A1_ c1_ p0) {res : Int × Int} (hm0 : top_Two p0 = some res) :
  Ok prog 151 [(.slice A1_ p0.length c1_)].toArray w0 H0 (fun H' v => v = (.tuple #[(.int .i64 res.1), (.int .i64 res.2)])) := by
 unfold top_Two at hm0
 refine ok_of_W Tryz.func151 rfl Tryz.ntmps151 (ts := [2, 3]) rfl rfl rfl ?_
 have hO := St.start hS
 refine seq (region (val (x_assign (.int .i64 0) rfl) ?_))
 refine val (x_assign (.int .i64 0) rfl) ?_
 refine nil (seq (region (val (x_move (.slice A1_ p0.length c1_) rfl) ?_)))
 obtain ⟨t1, ht2, hm0⟩ := bindSome hm0
 refine o_call hO go172 (top_Best_ok hO.sub h1_ ht2) rfl ?_
 rintro _ H3 w4 le5 rfl hO
 refine val (x_assign (.int .i64 t1) rfl) ?_
 refine nil (seq (region (val (x_move (.int .i64 t1) rfl) ?_)))
 refine val (x_move (.slice A1_ p0.length c1_) rfl) ?_
 refine val (x_move (.int .i64 t1) rfl) ?_
 obtain ⟨t6, ht7, hm0⟩ := bindSome hm0
 refine o_call hO go173 (top_beside_ok hO.sub (h1_.up le5) ht7) rfl ?_
 rintro _ H8 w9 le10 rfl hO
 refine val (x_assign (.int .i64 t1) rfl) ?_
 refine val (x_assign (.int .i64 t6) rfl) ?_
 refine nil (W.ret ?_)
 obtain rfl := sj hm0
 exact ⟨H8, rfl, hO.done⟩
theorem share_Shares_ok {w0 : World} {H0 : IHeap} (hS : Sub H0 w0) {p0 : Int} {p1 : Int}    {res : Int × Int} (hm0 : share_Shares p0 p1 = some res) :
  Ok prog 152 [(.int .i64 p0), (.int .i64 p1)].toArray w0 H0 (fun H' v => v = (.tuple #[(.int .i64 res.1), (.int .i64 res.2)])) := by
 unfold share_Shares at hm0
 refine ok_of_W Tryz.func152 rfl Tryz.ntmps152 (ts := [4, 5]) rfl rfl rfl ?_
 have hO := St.start hS
 refine seq (region (val (x_assign (.int .i64 0) rfl) ?_))
 refine val (x_assign (.int .i64 0) rfl) ?_
 refine nil (seq (region (val (x_move (.int .i64 p0) rfl) ?_)))
 obtain ⟨t1, ht2, hm0⟩ := bindSome hm0
 refine o_call hO go79 (fix_Hold_ok hO.sub  ht2) rfl ?_
 rintro _ H3 w4 le5 rfl hO
 refine val (x_max rfl rfl) ?_
 refine val (x_add rfl rfl) ?_
 refine val (x_move (.int .i64 p1) rfl) ?_
 obtain ⟨t6, ht7, hm0⟩ := bindSome hm0
 refine o_call hO go79 (fix_Hold_ok hO.sub  ht7) rfl ?_
 rintro _ H8 w9 le10 rfl hO
 refine val (x_max rfl rfl) ?_
 refine val (x_add rfl rfl) ?_
 refine val (x_assign (.int .i64 (i64w ((iMax t1 0) + 1))) rfl) ?_
 refine val (x_assign (.int .i64 (i64w ((iMax t6 0) + 1))) rfl) ?_
 refine nil (seq (region (val (x_move (.int .i64 (i64w ((iMax t1 0) + 1))) rfl) ?_)))
 refine val (x_mul rfl rfl) ?_
 refine val (x_move (.int .i64 (i64w ((iMax t1 0) + 1))) rfl) ?_
 refine val (x_move (.int .i64 (i64w ((iMax t6 0) + 1))) rfl) ?_
 refine val (x_add rfl rfl) ?_
 obtain ⟨hz11, hm0⟩ := chk hm0
 refine val (x_quo rfl rfl (nz hz11)) ?_
 refine val (x_assign (.int .i64 (i64w (Int.tdiv (i64w ((i64w ((iMax t1 0) + 1)) * 65536)) (i64w ((i64w ((iMax t1 0) + 1)) + (i64w ((iMax t6 0) + 1))))))) rfl) ?_
 refine nil (seq (region (val (x_move (.int .i64 (i64w (Int.tdiv (i64w ((i64w ((iMax t1 0) + 1)) * 65536)) (i64w ((i64w ((iMax t1 0) + 1)) + (i64w ((iMax t6 0) + 1))))))) rfl) ?_)))
 refine val (x_move (.int .i64 (i64w (Int.tdiv (i64w ((i64w ((iMax t1 0) + 1)) * 65536)) (i64w ((i64w ((iMax t1 0) + 1)) + (i64w ((iMax t6 0) + 1))))))) rfl) ?_
 refine val (x_sub rfl rfl) ?_
 refine val (x_assign (.int .i64 (i64w (Int.tdiv (i64w ((i64w ((iMax t1 0) + 1)) * 65536)) (i64w ((i64w ((iMax t1 0) + 1)) + (i64w ((iMax t6 0) + 1))))))) rfl) ?_
 refine val (x_assign (.int .i64 (i64w (65536 - (i64w (Int.tdiv (i64w ((i64w ((iMax t1 0) + 1)) * 65536)) (i64w ((i64w ((iMax t1 0) + 1)) + (i64w ((iMax t6 0) + 1))))))))) rfl) ?_
 refine nil (W.ret ?_)
 obtain rfl := sj hm0
 exact ⟨H8, rfl, hO.done⟩
theorem gate_Choose_ok {w0 : World} {H0 : IHeap} (hS : Sub H0 w0) {p0 : List (List Int)} {p1 : List Int}  {A1_ : Option Addr} {c1_ : Nat} {A2_ : Option Addr} {c2_ : Nat} (h1_ : RS (eSl (eInt .i64)) H0 A1_ c1_ p0) (h2_ : RS (eInt .i64) H0 A2_ c2_ p1) {res : GateChoice × Bool} (hm0 : gate_Choose p0 p1 = some res) :
  Ok prog 123 [(.slice A1_ p0.length c1_), (.slice A2_ p1.length c2_)].toArray w0 H0 (fun H' v => v = (.tuple #[(.agg #[(.int .i64 res.1.First), (.int .i64 res.1.Second), (.int .i64 res.1.W1), (.int .i64 res.1.W2)]), (.bool res.2)])) := by
 unfold gate_Choose at hm0
 refine OkO.ok (okO_of_W Tryz.func123 rfl Tryz.ntmps123 (rs := [.cell 4 197, .tmp 5]) rfl rfl ?_)
 have hO := St.start hS
 refine seq (region (o_alloc 0 _ [(.int .i64 0), (.int .i64 0), (.int .i64 0), (.int .i64 0)] zer197 hO rfl ?_))
 intro g1 w2 hO
 refine val (x_assign (.bool false) rfl) ?_
 refine nil (seq (region (val (x_move (.slice A1_ p0.length c1_) rfl) ?_)))
 refine val (x_move (.slice A2_ p1.length c2_) rfl) ?_
 obtain ⟨t3, ht4, hm0⟩ := bindSome hm0
 refine o_call hO go134 (mat_Apply_ok hO.sub h1_ h2_ ht4) rfl ?_
 rintro _ H5 w6 le7 ⟨A8, c9, rfl, h10⟩ hO
 refine val (x_move (.tuple #[(.slice A8 t3.1.length c9), (.bool t3.2)]) rfl) ?_
 refine val (x_extract (.slice A8 t3.1.length c9) rfl rfl) ?_
 refine val (x_extract (.bool t3.2) rfl rfl) ?_
 refine val (x_assign (.slice A8 t3.1.length c9) rfl) ?_
 refine val (x_assign (.bool t3.2) rfl) ?_
 refine nil (seq (seq (region (val (x_move (.bool t3.2) rfl) ?_))))
 refine val (x_not rfl) ?_
 refine val (x_move (.bool (!t3.2)) rfl) ?_
 refine gval rfl rfl (fun hb => x_move (.slice A1_ p0.length c1_) rfl) ?_
 refine gval rfl rfl (fun hb => x_len (gv hb) underlying25) ?_
 refine gval rfl rfl (fun hb => x_eql (gv hb) rfl) ?_
 refine val (x_pick rfl (.bool ((!t3.2) || ((p0.length : Int) == 0))) pick_or) ?_
 refine nil (test rfl hm0 ?_ ?_)
 ·intro hb11 hm0
  refine seq (region (val (x_build [] [(.int .i64 0), (.int .i64 0), (.int .i64 0), (.int .i64 0)] trivial (by kernel_rfl)) ?_))
  refine o_sts 0 [(.int .i64 0), (.int .i64 0), (.int .i64 0), (.int .i64 0)] hO rfl rfl rfl siz197 rfl (Nat.le_of_ble_eq_true rfl) (by simp [Value.oneCell', vs]) ?_
  intro w12 hO
  refine val (x_assign (.bool false) rfl) ?_
  refine nil (W.ret ?_)
  obtain rfl := sj hm0
  exact ⟨[(.agg #[(.int .i64 0), (.int .i64 0), (.int .i64 0), (.int .i64 0)]), (.bool false)], ⟨⟨_, rfl, hO.ldBlk 0 rfl agg197 rfl rfl⟩, rfl, trivial⟩, H5, _, rfl, hO⟩
 ·intro hb11 hm0
  refine skip (seq (region (val (x_build [(2, (.int .i64 65536))] [(.int .i64 0), (.int .i64 0), (.int .i64 65536), (.int .i64 0)] ⟨rfl, rfl, trivial⟩ (by kernel_rfl)) ?_)))
  refine o_alloc 1 _ [(.int .i64 0), (.int .i64 0), (.int .i64 0), (.int .i64 0)] zer197 hO rfl ?_
  intro g13 w14 hO
  refine o_sts 1 [(.int .i64 0), (.int .i64 0), (.int .i64 65536), (.int .i64 0)] hO rfl rfl rfl siz197 rfl (Nat.le_of_ble_eq_true rfl) (by simp [Value.oneCell', vs]) ?_
  intro w15 hO
  refine nil (seq (region (val (x_move (.slice A8 t3.1.length c9) rfl) ?_)))
  obtain ⟨t16, ht17, hm0⟩ := bindSome hm0
  refine o_call hO go151 (top_Two_ok hO.sub h10 ht17) rfl ?_
  rintro _ H18 w19 le20 rfl hO
  refine val (x_move (.tuple #[(.int .i64 t16.1), (.int .i64 t16.2)]) rfl) ?_
  refine val (x_extract (.int .i64 t16.1) rfl rfl) ?_
  refine val (x_extract (.int .i64 t16.2) rfl rfl) ?_
  refine val (x_fa rfl fo197_0) ?_
  refine o_st 1 (.int .i64 t16.1) hO rfl rfl rfl rfl siz3 rfl ?_
  intro w21 hO
  refine val (x_fa rfl fo197_1) ?_
  refine o_st 1 (.int .i64 t16.2) hO rfl rfl rfl rfl siz3 rfl ?_
  intro w22 hO
  refine nil (seq (seq (region (val (x_fa rfl fo197_1) ?_))))
  refine val (x_ld 1 (.int .i64 t16.2) hO rfl rfl rfl one3) ?_
  refine val (x_geq rfl rfl) ?_
  refine nil (test rfl hm0 ?_ ?_)
  ·intro hb23 hm0
   have hO := hO.pick [(0, .blk g1 [(.int .i64 0), (.int .i64 0), (.int .i64 0), (.int .i64 0)] 197), (1, .blk g13 [(.int .i64 t16.1), (.int .i64 t16.2), (.int .i64 65536), (.int .i64 0)] 197)] ⟨rfl, rfl, trivial⟩
   refine W.draw (SD w0 H0 [] H18 [(0, .blk g1 [(.int .i64 0), (.int .i64 0), (.int .i64 0), (.int .i64 0)] 197), (1, .blk g13 [(.int .i64 t16.1), (.int .i64 t16.2), (.int .i64 65536), (.int .i64 0)] 197)]) (fun i => ([12, 13, 14, 15, 16, 17] : List Nat).contains i) mixed 18 rfl _ rfl ?_
   intro w24 hh1 hh2 hh3 hh4; have hO := hO.same hh1 hh2 hh3 hh4; clear hh1 hh2 hh3 hh4
   have hS : SD w0 H0 [] H18 [(0, .blk g1 [(.int .i64 0), (.int .i64 0), (.int .i64 0), (.int .i64 0)] 197), (1, .blk g13 [(.int .i64 t16.1), (.int .i64 t16.2), (.int .i64 65536), (.int .i64 0)] 197)] w24 := ⟨_, _, Le.refl _, hO, ⟨rfl, rfl, trivial⟩⟩
   refine take (i := 0) rfl (by kernel_rfl) (fun w hS => x_move (.slice A8 t3.1.length c9) rfl) hS ?_
   refine take (i := 1) rfl (by kernel_rfl) (fun w hS => x_fa rfl fo197_0) hS ?_
   refine take (i := 2) rfl (by kernel_rfl) (fun w hS => x_ldD 1 (.int .i64 t16.1) hS rfl rfl rfl one3) hS ?_
   obtain ⟨hin28, hm0⟩ := chk hm0
   obtain ⟨a25, h26, hA27⟩ := RS.at_ (h10.up le20) hin28
   refine take (i := 3) rfl (by kernel_rfl) (fun w hS => x_ia (sA rfl hA27) rfl sle61 hin28) hS ?_
   refine take (i := 4) rfl (by kernel_rfl) (fun w hS => x_ldc rfl (h26.int _ hS.sub) one3) hS ?_
   refine take (i := 5) rfl (by kernel_rfl) (fun w hS => x_move (.slice A8 t3.1.length c9) rfl) hS ?_
   refine take (i := 6) rfl (by kernel_rfl) (fun w hS => x_fa rfl fo197_1) hS ?_
   refine take (i := 7) rfl (by kernel_rfl) (fun w hS => x_ldD 1 (.int .i64 t16.2) hS rfl rfl rfl one3) hS ?_
   obtain ⟨hin32, hm0⟩ := chk hm0
   obtain ⟨a29, h30, hA31⟩ := RS.at_ (h10.up le20) hin32
   refine take (i := 8) rfl (by kernel_rfl) (fun w hS => x_ia (sA rfl hA31) rfl sle61 hin32) hS ?_
   refine take (i := 9) rfl (by kernel_rfl) (fun w hS => x_ldc rfl (h30.int _ hS.sub) one3) hS ?_
   refine WA.only (i := 10) (by kernel_rfl) rfl ?_
   obtain ⟨t33, ht34, hm0⟩ := bindSome hm0
   refine o_call hO go152 (share_Shares_ok hO.sub  ht34) rfl ?_
   rintro _ H35 w36 le37 rfl hO
   have hS : SD w0 H0 [] H18 [(0, .blk g1 [(.int .i64 0), (.int .i64 0), (.int .i64 0), (.int .i64 0)] 197), (1, .blk g13 [(.int .i64 t16.1), (.int .i64 t16.2), (.int .i64 65536), (.int .i64 0)] 197)] _ := ⟨_, _, le37, hO, ⟨rfl, rfl, trivial⟩⟩
   refine nil ⟨fun _ => hS, ?_⟩
   refine take (i := 11) rfl (by kernel_rfl) (fun w hS => x_move (.tuple #[(.int .i64 t33.1), (.int .i64 t33.2)]) rfl) hS ?_
   refine WA.all [12, 13] (by kernel_rfl) (by simp) ?_
   intro i hi; simp only [List.mem_cons, List.not_mem_nil, or_false] at hi
   rcases hi with rfl | rfl
   ·refine ⟨_, rfl, ?_⟩
    refine val (x_extract (.int .i64 t33.1) rfl rfl) ?_
    refine nil ⟨fun h => absurd h (by decide), ?_⟩
    refine WA.all [13, 14] (by kernel_rfl) (by simp) ?_
    intro i hi; simp only [List.mem_cons, List.not_mem_nil, or_false] at hi
    rcases hi with rfl | rfl
    ·refine ⟨_, rfl, ?_⟩
     refine val (x_extract (.int .i64 t33.2) rfl rfl) ?_
     refine nil ⟨fun h => absurd h (by decide), ?_⟩
     refine WA.only (i := 14) (by kernel_rfl) rfl ?_
     refine val (x_fa rfl fo197_2) ?_
     refine nil ⟨fun h => absurd h (by decide), ?_⟩
     refine WA.only (i := 15) (by kernel_rfl) rfl ?_
     refine o_st 1 (.int .i64 t33.1) hO rfl rfl rfl rfl siz3 rfl ?_
     intro w38 hO
     refine nil ⟨fun h => absurd h (by decide), ?_⟩
     refine WA.only (i := 16) (by kernel_rfl) rfl ?_
     refine val (x_fa rfl fo197_3) ?_
     refine nil ⟨fun h => absurd h (by decide), ?_⟩
     refine WA.only (i := 17) (by kernel_rfl) rfl ?_
     refine o_st 1 (.int .i64 t33.2) hO rfl rfl rfl rfl siz3 rfl ?_
     intro w39 hO
     refine nil ⟨fun h => absurd h (by decide), ?_⟩
     refine WA.done (by kernel_rfl) ?_
     refine seq (region (val (x_lds 1 [(.int .i64 t16.1), (.int .i64 t16.2), (.int .i64 t33.1), (.int .i64 t33.2)] hO rfl rfl agg197 rfl rfl) ?_))
     refine o_sts 0 [(.int .i64 t16.1), (.int .i64 t16.2), (.int .i64 t33.1), (.int .i64 t33.2)] hO rfl rfl rfl siz197 rfl (Nat.le_of_ble_eq_true rfl) (by simp [Value.oneCell', vs]) ?_
     intro w40 hO
     refine val (x_assign (.bool true) rfl) ?_
     refine nil (W.ret ?_)
     obtain rfl := sj hm0
     exact ⟨[(.agg #[(.int .i64 t16.1), (.int .i64 t16.2), (.int .i64 t33.1), (.int .i64 t33.2)]), (.bool true)], ⟨⟨_, rfl, hO.ldBlk 0 rfl agg197 rfl rfl⟩, rfl, trivial⟩, H35, _, rfl, hO⟩
    ·refine ⟨_, rfl, ?_⟩
     refine val (x_fa rfl fo197_2) ?_
     refine nil ⟨fun h => absurd h (by decide), ?_⟩
     refine WA.all [13, 15] (by kernel_rfl) (by simp) ?_
     intro i hi; simp only [List.mem_cons, List.not_mem_nil, or_false] at hi
     rcases hi with rfl | rfl
     ·refine ⟨_, rfl, ?_⟩
      refine val (x_extract (.int .i64 t33.2) rfl rfl) ?_
      refine nil ⟨fun h => absurd h (by decide), ?_⟩
      refine WA.only (i := 15) (by kernel_rfl) rfl ?_
      refine o_st 1 (.int .i64 t33.1) hO rfl rfl rfl rfl siz3 rfl ?_
      intro w38 hO
      refine nil ⟨fun h => absurd h (by decide), ?_⟩
      refine WA.only (i := 16) (by kernel_rfl) rfl ?_
      refine val (x_fa rfl fo197_3) ?_
      refine nil ⟨fun h => absurd h (by decide), ?_⟩
      refine WA.only (i := 17) (by kernel_rfl) rfl ?_
      refine o_st 1 (.int .i64 t33.2) hO rfl rfl rfl rfl siz3 rfl ?_
      intro w39 hO
      refine nil ⟨fun h => absurd h (by decide), ?_⟩
      refine WA.done (by kernel_rfl) ?_
      refine seq (region (val (x_lds 1 [(.int .i64 t16.1), (.int .i64 t16.2), (.int .i64 t33.1), (.int .i64 t33.2)] hO rfl rfl agg197 rfl rfl) ?_))
      refine o_sts 0 [(.int .i64 t16.1), (.int .i64 t16.2), (.int .i64 t33.1), (.int .i64 t33.2)] hO rfl rfl rfl siz197 rfl (Nat.le_of_ble_eq_true rfl) (by simp [Value.oneCell', vs]) ?_
      intro w40 hO
      refine val (x_assign (.bool true) rfl) ?_
      refine nil (W.ret ?_)
      obtain rfl := sj hm0
      exact ⟨[(.agg #[(.int .i64 t16.1), (.int .i64 t16.2), (.int .i64 t33.1), (.int .i64 t33.2)]), (.bool true)], ⟨⟨_, rfl, hO.ldBlk 0 rfl agg197 rfl rfl⟩, rfl, trivial⟩, H35, _, rfl, hO⟩
     ·refine ⟨_, rfl, ?_⟩
      refine o_st 1 (.int .i64 t33.1) hO rfl rfl rfl rfl siz3 rfl ?_
      intro w38 hO
      refine nil ⟨fun h => absurd h (by decide), ?_⟩
      refine WA.only (i := 13) (by kernel_rfl) rfl ?_
      refine val (x_extract (.int .i64 t33.2) rfl rfl) ?_
      refine nil ⟨fun h => absurd h (by decide), ?_⟩
      refine WA.only (i := 16) (by kernel_rfl) rfl ?_
      refine val (x_fa rfl fo197_3) ?_
      refine nil ⟨fun h => absurd h (by decide), ?_⟩
      refine WA.only (i := 17) (by kernel_rfl) rfl ?_
      refine o_st 1 (.int .i64 t33.2) hO rfl rfl rfl rfl siz3 rfl ?_
      intro w39 hO
      refine nil ⟨fun h => absurd h (by decide), ?_⟩
      refine WA.done (by kernel_rfl) ?_
      refine seq (region (val (x_lds 1 [(.int .i64 t16.1), (.int .i64 t16.2), (.int .i64 t33.1), (.int .i64 t33.2)] hO rfl rfl agg197 rfl rfl) ?_))
      refine o_sts 0 [(.int .i64 t16.1), (.int .i64 t16.2), (.int .i64 t33.1), (.int .i64 t33.2)] hO rfl rfl rfl siz197 rfl (Nat.le_of_ble_eq_true rfl) (by simp [Value.oneCell', vs]) ?_
      intro w40 hO
      refine val (x_assign (.bool true) rfl) ?_
      refine nil (W.ret ?_)
      obtain rfl := sj hm0
      exact ⟨[(.agg #[(.int .i64 t16.1), (.int .i64 t16.2), (.int .i64 t33.1), (.int .i64 t33.2)]), (.bool true)], ⟨⟨_, rfl, hO.ldBlk 0 rfl agg197 rfl rfl⟩, rfl, trivial⟩, H35, _, rfl, hO⟩
   ·refine ⟨_, rfl, ?_⟩
    refine val (x_extract (.int .i64 t33.2) rfl rfl) ?_
    refine nil ⟨fun h => absurd h (by decide), ?_⟩
    refine WA.only (i := 12) (by kernel_rfl) rfl ?_
    refine val (x_extract (.int .i64 t33.1) rfl rfl) ?_
    refine nil ⟨fun h => absurd h (by decide), ?_⟩
    refine WA.only (i := 14) (by kernel_rfl) rfl ?_
    refine val (x_fa rfl fo197_2) ?_
    refine nil ⟨fun h => absurd h (by decide), ?_⟩
    refine WA.only (i := 15) (by kernel_rfl) rfl ?_
    refine o_st 1 (.int .i64 t33.1) hO rfl rfl rfl rfl siz3 rfl ?_
    intro w38 hO
    refine nil ⟨fun h => absurd h (by decide), ?_⟩
    refine WA.only (i := 16) (by kernel_rfl) rfl ?_
    refine val (x_fa rfl fo197_3) ?_
    refine nil ⟨fun h => absurd h (by decide), ?_⟩
    refine WA.only (i := 17) (by kernel_rfl) rfl ?_
    refine o_st 1 (.int .i64 t33.2) hO rfl rfl rfl rfl siz3 rfl ?_
    intro w39 hO
    refine nil ⟨fun h => absurd h (by decide), ?_⟩
    refine WA.done (by kernel_rfl) ?_
    refine seq (region (val (x_lds 1 [(.int .i64 t16.1), (.int .i64 t16.2), (.int .i64 t33.1), (.int .i64 t33.2)] hO rfl rfl agg197 rfl rfl) ?_))
    refine o_sts 0 [(.int .i64 t16.1), (.int .i64 t16.2), (.int .i64 t33.1), (.int .i64 t33.2)] hO rfl rfl rfl siz197 rfl (Nat.le_of_ble_eq_true rfl) (by simp [Value.oneCell', vs]) ?_
    intro w40 hO
    refine val (x_assign (.bool true) rfl) ?_
    refine nil (W.ret ?_)
    obtain rfl := sj hm0
    exact ⟨[(.agg #[(.int .i64 t16.1), (.int .i64 t16.2), (.int .i64 t33.1), (.int .i64 t33.2)]), (.bool true)], ⟨⟨_, rfl, hO.ldBlk 0 rfl agg197 rfl rfl⟩, rfl, trivial⟩, H35, _, rfl, hO⟩
  ·intro hb23 hm0
   refine skip (seq (region (val (x_lds 1 [(.int .i64 t16.1), (.int .i64 t16.2), (.int .i64 65536), (.int .i64 0)] hO rfl rfl agg197 rfl rfl) ?_)))
   refine o_sts 0 [(.int .i64 t16.1), (.int .i64 t16.2), (.int .i64 65536), (.int .i64 0)] hO rfl rfl rfl siz197 rfl (Nat.le_of_ble_eq_true rfl) (by simp [Value.oneCell', vs]) ?_
   intro w41 hO
   refine val (x_assign (.bool true) rfl) ?_
   refine nil (W.ret ?_)
   obtain rfl := sj hm0
   exact ⟨[(.agg #[(.int .i64 t16.1), (.int .i64 t16.2), (.int .i64 65536), (.int .i64 0)]), (.bool true)], ⟨⟨_, rfl, hO.ldBlk 0 rfl agg197 rfl rfl⟩, rfl, trivial⟩, H18, _, rfl, hO⟩
theorem slots_Assign_ok {w0 : World} {H0 : IHeap} (hS : Sub H0 w0) {p0 : List (List Int)} {p1 : Int} {p2 : Int}  {A1_ : Option Addr} {c1_ : Nat} (h1_ : RS (eArr 2 (eInt .i64)) H0 A1_ c1_ p0) {res : (List (List Int))} (hm0 : slots_Assign p0 p1 p2 = some res) :
  Ok prog 124 [(.slice A1_ p0.length c1_), (.int .i64 p1), (.int .i64 p2)].toArray w0 H0 (fun H' v => ∃ (A1 : Option Addr) (c1 : Nat), v = (.slice A1 res.length c1) ∧ RS (eArr 2 (eInt .i64)) H' A1 c1 res) := by
 unfold slots_Assign at hm0
 refine ok_of_W Tryz.func124 rfl Tryz.ntmps124 (ts := [6]) rfl rfl rfl ?_
 have hO := St.start hS
 refine seq (region (val (x_assign (.slice none 0 0) rfl) ?_))
 refine nil (seq (region (o_makeMap (β := Int) 0 .i64 (Value.int .i64) hO ?_)))
 intro g1 w2 hO
 refine val (x_assign (.map (some g1)) rfl) ?_
 refine nil (seq (region (val (x_assign (.slice none 0 0) rfl) ?_)))
 refine nil (seq (seq (region (val (x_move (.slice A1_ p0.length c1_) rfl) ?_))))
 refine val (x_len rfl underlying94) ?_
 refine val (x_move (.int .i64 0) rfl) ?_
 refine nil ?_
 have hO := hO.nilRowT (α := List Int) 1 none 99 (eArr 2 (eInt .i64))
 obtain ⟨o3, hm1, hm0⟩ := bindSome hm0
 have hO := hO.pick [(1, .row none 0 99 (eArr 2 (eInt .i64)).size ([] : List (List Int)).length []), (0, .mp g1 (mcells .i64 (Value.int .i64) ([] : List (Int × Int))))] ⟨rfl, rfl, trivial⟩
 refine W.blockLoop (fun r w => ∃ (v9 : List (List Int)) (A10 : Option Addr) (c11 : Nat) (cs12 : List Value) (v14 : List (Int × Int)) (i6 : Nat) (H4 : IHeap), (v9, v14) = o3 ∧ Le H0 H4 ∧ St w0 H0 [] H4 (ol [(1, .row A10 c11 99 (eArr 2 (eInt .i64)).size v9.length cs12), (0, .mp g1 (mcells .i64 (Value.int .i64) v14))]) w ∧ r 8 = (.slice A10 v9.length c11) ∧ Rows (eArr 2 (eInt .i64)) H4 cs12 v9) (fun k r w => ∃ (i6 : Nat) (rest7 : List (List Int)) (v9 : List (List Int)) (A10 : Option Addr) (c11 : Nat) (cs12 : List Value) (v14 : List (Int × Int)) (H4 : IHeap), k = rest7.length ∧ List.drop i6 p0 = rest7 ∧ slots_Assign_l1 p1 p2 rest7 i6 v9 v14 = some o3 ∧ Le H0 H4 ∧ St w0 H0 [] H4 (ol [(1, .row A10 c11 99 (eArr 2 (eInt .i64)).size v9.length cs12), (0, .mp g1 (mcells .i64 (Value.int .i64) v14))]) w ∧ r 1 = (.int .i64 p1) ∧ r 2 = (.int .i64 p2) ∧ r 7 = (.map (some g1)) ∧ r 8 = (.slice A10 v9.length c11) ∧ r 15 = (.slice A1_ p0.length c1_) ∧ r 16 = (.int .i64 (p0.length : Int)) ∧ r 17 = (.int .i64 (i6 : Int)) ∧ Rows (eArr 2 (eInt .i64)) H4 cs12 v9) (List.length p0) ?_ ?_ ?_
 ·exact ⟨0, _, ([] : List (List Int)), none, 0, [], ([] : List (Int × Int)), _, rfl, rfl, hm1, Le.refl _, hO, rfl, rfl, rfl, rfl, rfl, rfl, rfl, Rows.nil⟩
 ·
  intro k r w
  rintro ⟨i6, rest7, v9, A10, c11, cs12, v14, H4, rfl, hd15, hm1, le5, hO, f1_1, f2_1, f7_1, f8_1, f15_1, f16_1, f17_1, h13⟩
  cases rest7 with
  | nil =>
   rw [slots_Assign_l1] at hm1
   have hlt := drop_nil hd15
   refine seq (region (val (x_lss f17_1 f16_1) ?_))
   refine nil (seq (W.cond_f (kb rfl hlt) ?_))
   refine W.exit _ rfl ?_
   obtain rfl := sj hm1
   exact ⟨v9, A10, c11, cs12, v14, i6, H4, rfl, le5, hO.pick _ ⟨rfl, rfl, trivial⟩, f8_1, h13⟩
  | cons x8 rest7 =>
   rw [slots_Assign_l1] at hm1
   have hlt := drop_lt hd15
   have hnx := drop_next hd15
   have hinc := inc_len hlt h1_.1 h1_.2.1
   refine seq (region (val (x_lss f17_1 f16_1) ?_))
   refine nil (seq (W.cond_t (kb rfl hlt) ?_))
   refine skip (seq (W.block ?_))
   refine seq (region ?_)
   obtain ⟨a16, h17, hA18, hin⟩ := RS.atR (h1_.up le5) hd15
   refine val (x_ia (sA f15_1 hA18) f17_1 sle94 hin) ?_
   obtain ⟨cs19, hr20, hc21⟩ := At.agg h17
   refine val (x_ldv rfl (hc21 _ _ _ hO.sub agg99)) ?_
   refine o_alloc 2 _ zc99 zer99 hO rfl ?_
   intro g22 w23 hO
   refine o_stP (us := cs19) 2 (.agg cs19.toArray) hO rfl (zr99 _) (Lens.refl _) rfl rfl rfl hr20 siz99 ?_
   intro cs24 w25 (hr26 : Enc.rep (eArr 2 (eInt .i64)) H4 cs24 x8) hO
   refine nil (seq (region ?_))
   have hr27 : Enc.rep (eArr 2 (eInt .i64)) H4 ([(.int .i64 (-1)), (.int .i64 (-1))] : List Value) [(-1), (-1)] := ⟨(Rows.cons (c1 := ([(.int .i64 (-1))] : List Value)) rfl (Rows.cons (c1 := ([(.int .i64 (-1))] : List Value)) rfl Rows.nil)), rfl⟩
   refine val (x_build [(0, (.int .i64 (-1))), (1, (.int .i64 (-1)))] ([(.int .i64 (-1)), (.int .i64 (-1))] : List Value) ⟨rfl, rfl, rfl, rfl, trivial⟩ (by kernel_rfl)) ?_
   refine o_alloc 3 _ zc99 zer99 hO rfl ?_
   intro g28 w29 hO
   refine o_stP (us := ([(.int .i64 (-1)), (.int .i64 (-1))] : List Value)) 3 (.agg #[(.int .i64 (-1)), (.int .i64 (-1))]) hO rfl (zr99 _) (Lens.refl _) rfl rfl rfl hr27 siz99 ?_
   intro cs30 w31 (hr32 : Enc.rep (eArr 2 (eInt .i64)) H4 cs30 [(-1), (-1)]) hO
   refine nil (seq (seq (region (val (x_lds 2 cs24 hO rfl rfl agg99 (whole_take (rep_len hr26 rfl)) (rep_len hr26 rfl)) ?_))))
   refine val (x_move (.int .i64 0) rfl) ?_
   refine nil ?_
   obtain ⟨hlim2, hm1⟩ := chk hm1
   obtain ⟨o33, hm2, hm1⟩ := bindSome hm1
   have hO := hO.pick [(3, .blk g28 cs30 99), (1, .row A10 c11 99 (eArr 2 (eInt .i64)).size v9.length cs12), (0, .mp g1 (mcells .i64 (Value.int .i64) v14))] ⟨rfl, rfl, rfl, trivial⟩
   refine W.blockLoop (fun r w => ∃ (v39 : List Int) (cs40 : List Value) (v42 : List (Int × Int)) (i36 : Nat) (H34 : IHeap), (v39, v42) = o33 ∧ Le H4 H34 ∧ St w0 H0 [] H34 (ol [(3, .blk g28 cs40 99), (1, .row A10 c11 99 (eArr 2 (eInt .i64)).size v9.length cs12), (0, .mp g1 (mcells .i64 (Value.int .i64) v42))]) w ∧ r 1 = (.int .i64 p1) ∧ r 2 = (.int .i64 p2) ∧ r 7 = (.map (some g1)) ∧ r 8 = (.slice A10 v9.length c11) ∧ r 11 = (.pointer (some ⟨g28, 0, none⟩)) ∧ r 15 = (.slice A1_ p0.length c1_) ∧ r 16 = (.int .i64 (p0.length : Int)) ∧ r 17 = (.int .i64 (i6 : Int)) ∧ Enc.rep (eArr 2 (eInt .i64)) H34 cs40 v39) (fun k r w => ∃ (i36 : Nat) (rest37 : Nat) (v39 : List Int) (cs40 : List Value) (v42 : List (Int × Int)) (H34 : IHeap), rest37 = k ∧ Int.toNat (2 - (i36 : Int)) = rest37 ∧ slots_Assign_l2 p1 p2 x8 rest37 i36 v39 v42 = some o33 ∧ Le H4 H34 ∧ St w0 H0 [] H34 (ol [(3, .blk g28 cs40 99), (1, .row A10 c11 99 (eArr 2 (eInt .i64)).size v9.length cs12), (0, .mp g1 (mcells .i64 (Value.int .i64) v42))]) w ∧ r 1 = (.int .i64 p1) ∧ r 2 = (.int .i64 p2) ∧ r 7 = (.map (some g1)) ∧ r 8 = (.slice A10 v9.length c11) ∧ r 11 = (.pointer (some ⟨g28, 0, none⟩)) ∧ r 15 = (.slice A1_ p0.length c1_) ∧ r 16 = (.int .i64 (p0.length : Int)) ∧ r 17 = (.int .i64 (i6 : Int)) ∧ r 22 = (.agg cs24.toArray) ∧ r 23 = (.int .i64 (i36 : Int)) ∧ Enc.rep (eArr 2 (eInt .i64)) H34 cs40 v39) (Int.toNat 2) ?_ ?_ ?_
   ·exact ⟨0, _, [(-1), (-1)], cs30, v14, _, rfl, cnt_init _, hm2, Le.refl _, hO, f1_1, f2_1, f7_1, f8_1, rfl, f15_1, f16_1, f17_1, rfl, rfl, hr32⟩
   ·
    intro k r w
    rintro ⟨i36, rest37, v39, cs40, v42, H34, rfl, hd43, hm2, le35, hO, f1_2, f2_2, f7_2, f8_2, f11_2, f15_2, f16_2, f17_2, f22_2, f23_2, h41⟩
    cases rest37 with
    | zero =>
     rw [slots_Assign_l2] at hm2
     have hlt := cnt_zero hd43
     refine seq (region (val (x_lss f23_2 rfl) ?_))
     refine nil (seq (W.cond_f (kb rfl hlt) ?_))
     refine W.exit _ rfl ?_
     obtain rfl := sj hm2
     exact ⟨v39, cs40, v42, i36, H34, rfl, le35, hO.pick _ ⟨rfl, rfl, rfl, trivial⟩, f1_2, f2_2, f7_2, f8_2, f11_2, f15_2, f16_2, f17_2, h41⟩
    | succ rest37 =>
     rw [slots_Assign_l2] at hm2
     have hlt := cnt_lt hd43
     have hnx := cnt_next hd43
     have hinc := inc_lim hlt hlim2
     refine seq (region (val (x_lss f23_2 rfl) ?_))
     refine nil (seq (W.cond_t (kb rfl hlt) ?_))
     refine skip (seq (W.block ?_))
     refine seq (region (val (x_move (.int .i64 (i36 : Int)) f23_2) ?_))
     obtain ⟨hin44, hm2⟩ := chk hm2
     refine val (x_ixArrI (xs := x8) (Enc.mono _ le35 hr26) are99 underlying99 one3 f22_2 f23_2 hin44) ?_
     refine val (x_assign (.int .i64 (i36 : Int)) rfl) ?_
     refine val (x_assign (.int .i64 (at0 x8 (i36 : Int))) rfl) ?_
     refine nil (seq (seq (region (val (x_move (.int .i64 (at0 x8 (i36 : Int))) rfl) ?_))))
     refine val (x_lss rfl rfl) ?_
     refine val (x_move (.bool (decide ((at0 x8 (i36 : Int)) < 0))) rfl) ?_
     refine gval rfl rfl (fun hb => x_move (.int .i64 (at0 x8 (i36 : Int))) rfl) ?_
     refine gval rfl rfl (fun hb => x_move (.int .i64 p1) f1_2) ?_
     refine gval rfl rfl (fun hb => x_geq (gv hb) (gv hb)) ?_
     refine val (x_pick rfl (.bool ((decide ((at0 x8 (i36 : Int)) < 0)) || (decide (p1 ≤ (at0 x8 (i36 : Int)))))) pick_or) ?_
     refine val (x_move (.bool ((decide ((at0 x8 (i36 : Int)) < 0)) || (decide (p1 ≤ (at0 x8 (i36 : Int)))))) rfl) ?_
     refine gval rfl rfl (fun hb => x_move (.map (some g1)) f7_2) ?_
     refine gval rfl rfl (fun hb => x_move (.int .i64 (at0 x8 (i36 : Int))) rfl) ?_
     rcases btest hm2 with ⟨hb45, hm2⟩ | ⟨hb45, hm2⟩
     ·refine no rfl (kb rfl hb45) rfl ?_
      refine no rfl (kb rfl hb45) rfl ?_
      refine no rfl (kb rfl hb45) rfl ?_
      refine val (x_pick_t (kb rfl hb45) (.bool true) rfl) ?_
      refine nil (W.cond_t rfl ?_)
      refine W.exit _ rfl ?_
      refine region (val (x_add f23_2 rfl) ?_)
      refine val (x_move (.int .i64 (i64w ((i36 : Int) + 1))) rfl) ?_
      refine nil ?_
      exact ⟨_, Nat.lt_succ_self _, i36 + 1, rest37, v39, cs40, v42, H34, rfl, hnx, hm2, le35, hO.pick _ ⟨rfl, rfl, rfl, trivial⟩, f1_2, f2_2, f7_2, f8_2, f11_2, f15_2, f16_2, f17_2, f22_2, (incv hinc), h41⟩
     ·refine yes rfl (kb rfl hb45) ?_
      refine val (x_look (f := (Value.int .i64)) (xs := v42) (key := at0 x8 (i36 : Int)) 0 0 hO rfl mof221 underlying3 zer3 (by exact gkF hb45) (by exact gkF hb45)) ?_
      refine yes rfl (kb rfl hb45) ?_
      refine val (x_move (.int .i64 p2) f2_2) ?_
      refine yes rfl (kb rfl hb45) ?_
      refine val (x_geq rfl rfl) ?_
      refine val (x_pick_f (kb rfl hb45) (.bool (decide (p2 ≤ (mget 0 v42 (at0 x8 (i36 : Int)))))) rfl) ?_
      refine nil (test rfl hm2 ?_ ?_)
      ·intro hb46 hm2
       refine W.exit _ rfl ?_
       refine region (val (x_add f23_2 rfl) ?_)
       refine val (x_move (.int .i64 (i64w ((i36 : Int) + 1))) rfl) ?_
       refine nil ?_
       exact ⟨_, Nat.lt_succ_self _, i36 + 1, rest37, v39, cs40, v42, H34, rfl, hnx, hm2, le35, hO.pick _ ⟨rfl, rfl, rfl, trivial⟩, f1_2, f2_2, f7_2, f8_2, f11_2, f15_2, f16_2, f17_2, f22_2, (incv hinc), h41⟩
      ·intro hb46 hm2
       refine skip (seq (region (val (x_move (.int .i64 (i36 : Int)) rfl) ?_)))
       refine val (x_move (.map (some g1)) f7_2) ?_
       refine val (x_move (.int .i64 (at0 x8 (i36 : Int))) rfl) ?_
       refine val (x_look (f := (Value.int .i64)) (xs := v42) (key := at0 x8 (i36 : Int)) 0 0 hO rfl mof221 underlying3 zer3 rfl rfl) ?_
       obtain ⟨hin47, hm2⟩ := chk hm2
       refine val (x_iaArr f11_2 rfl are99 hin47) ?_
       refine o_stP 3 (.int .i64 (mget 0 v42 (at0 x8 (i36 : Int)))) hO rfl h41 (Lens.comp (Lens.refl _) (lens_idx (n := 2) (eInt .i64) hin47)) rfl rfl rfl rfl siz3 ?_
       intro cs48 w49 (hr50 : Enc.rep (eArr 2 (eInt .i64)) H34 cs48 (List.set v39 (Int.toNat (i36 : Int)) (mget 0 v42 (at0 x8 (i36 : Int))))) hO
       refine nil (region (val (x_move (.map (some g1)) f7_2) ?_))
       refine val (x_move (.int .i64 (at0 x8 (i36 : Int))) rfl) ?_
       refine val (x_look (f := (Value.int .i64)) (xs := v42) (key := at0 x8 (i36 : Int)) 0 0 hO rfl mof221 underlying3 zer3 rfl rfl) ?_
       refine val (x_add rfl rfl) ?_
       refine o_mput (f := (Value.int .i64)) (xs := v42) (key := at0 x8 (i36 : Int)) (nv := i64w ((mget 0 v42 (at0 x8 (i36 : Int))) + 1)) 0 hO rfl mof221 underlying3 rfl rfl rfl ?_
       intro w51 hO
       refine nil (region (val (x_add f23_2 rfl) ?_))
       refine val (x_move (.int .i64 (i64w ((i36 : Int) + 1))) rfl) ?_
       refine nil ?_
       exact ⟨_, Nat.lt_succ_self _, i36 + 1, rest37, (List.set v39 (Int.toNat (i36 : Int)) (mget 0 v42 (at0 x8 (i36 : Int)))), cs48, (mput v42 (at0 x8 (i36 : Int)) (i64w ((mget 0 v42 (at0 x8 (i36 : Int))) + 1))), H34, rfl, hnx, hm2, le35, hO.pick _ ⟨rfl, rfl, rfl, trivial⟩, f1_2, f2_2, f7_2, f8_2, f11_2, f15_2, f16_2, f17_2, f22_2, (incv hinc), hr50⟩
   ·intro r w
    rintro ⟨v54, cs55, v57, i58, H52, rfl, le53, hO, f59, f60, f61, f62, f63, f64, f65, f66, h56⟩
    dsimp only at hm1
    refine region (val (x_move (.slice A10 v9.length c11) f62) ?_)
    refine val (x_lds 3 cs55 hO rfl f63 agg99 (whole_take (rep_len h56 rfl)) (rep_len h56 rfl)) ?_
    refine o_litT (en := (eArr 2 (eInt .i64))) 4 [(.agg cs55.toArray)] ([v54] : List (List Int)) hO sli94 ⟨h56, trivial⟩ rfl rfl rfl ?_
    intro g67 cs68 w69 hr70 hO
    refine o_appT (en := (eArr 2 (eInt .i64))) (xs := v9) (ys := ([v54] : List (List Int))) 1 hO rfl (h13.up le53) rfl rfl (Src.row (k := 4) hO rfl) hr70 sli94 rfl rfl underlying94 hm1 ?_
    intro A71 c72 cs73 w74 hr75 hO hm1
    refine val (x_assign (.slice A71 (v9 ++ ([v54] : List (List Int))).length c72) rfl) ?_
    refine nil (region (val (x_add f66 rfl) ?_))
    refine val (x_move (.int .i64 (i64w ((i6 : Int) + 1))) rfl) ?_
    refine nil ?_
    exact ⟨_, Nat.lt_succ_self _, i6 + 1, rest7, (v9 ++ ([v54] : List (List Int))), A71, c72, cs73, v57, H52, rfl, hnx, hm1, (le5.trans le53), hO.pick _ ⟨rfl, rfl, trivial⟩, f59, f60, f61, rfl, f64, f65, (incv hinc), hr75⟩
 ·intro r w
  rintro ⟨v78, A79, c80, cs82, v83, i84, H76, rfl, le77, hO, f85, h81⟩
  dsimp only at hm0
  refine seq (region (val (x_move (.slice A79 v78.length c80) f85) ?_))
  refine val (x_assign (.slice A79 v78.length c80) rfl) ?_
  refine nil (W.ret ?_)
  obtain ⟨H86, le87, h88, hO⟩ := hO.freezeRow (en := (eArr 2 (eInt .i64))) 1 rfl rfl rfl h81
  obtain rfl := sj hm0
  exact ⟨H86, ⟨A79, c80, rfl, h88⟩, hO.done⟩
theorem model_Parts_ok {w0 : World} {H0 : IHeap} (hS : Sub H0 w0) {p0 : ApiLayer} {p1 : List (List Int)}  {A1_ : Option Addr} {c1_ : Nat} {A2_ : Option Addr} {c2_ : Nat} {A3_ : Option Addr} {c3_ : Nat} (h1_ : RS (eSl (eInt .i64)) H0 A1_ c1_ p0.Gate) (h2_ : RS eApiExpert H0 A2_ c2_ p0.Experts) (h3_ : RS (eSl (eInt .i64)) H0 A3_ c3_ p1) {res : (List ModelPart)} (hm0 : model_Parts p0 p1 = some res) :
  Ok prog 81 [(.agg #[(.slice A1_ p0.Gate.length c1_), (.slice A2_ p0.Experts.length c2_), (.int .i64 p0.Capacity)]), (.slice A3_ p1.length c3_)].toArray w0 H0 (fun H' v => ∃ (A1 : Option Addr) (c1 : Nat), v = (.slice A1 res.length c1) ∧ RS eModelPart H' A1 c1 res) := by
 unfold model_Parts at hm0
 refine ok_of_W Tryz.func81 rfl Tryz.ntmps81 (ts := [4]) rfl rfl rfl ?_
 have hO := St.start hS
 refine seq (region (o_box 0 [(.slice A1_ p0.Gate.length c1_), (.slice A2_ p0.Experts.length c2_), (.int .i64 p0.Capacity)] hO rfl ?_))
 intro g1 w2 hO
 refine val (x_assign (.slice none 0 0) rfl) ?_
 refine nil (seq (region (val (x_assign (.slice none 0 0) rfl) ?_)))
 refine nil (seq (region (val (x_assign (.slice none 0 0) rfl) ?_)))
 refine nil (seq (seq (region (val (x_move (.slice A3_ p1.length c3_) rfl) ?_))))
 refine val (x_len rfl underlying25) ?_
 refine val (x_move (.int .i64 0) rfl) ?_
 refine nil ?_
 have hO := hO.nilRowT (α := GateChoice) 1 none 197 eGateChoice
 have hO := hO.nilRowT (α := List Int) 2 none 99 (eArr 2 (eInt .i64))
 obtain ⟨o3, hm1, hm0⟩ := bindSome hm0
 have hO := hO.pick [(0, .blk g1 [(.slice A1_ p0.Gate.length c1_), (.slice A2_ p0.Experts.length c2_), (.int .i64 p0.Capacity)] 41), (1, .row none 0 197 eGateChoice.size ([] : List GateChoice).length []), (2, .row none 0 99 (eArr 2 (eInt .i64)).size ([] : List (List Int)).length [])] ⟨rfl, rfl, rfl, trivial⟩
 refine W.blockLoop (fun r w => ∃ (v9 : List GateChoice) (A10 : Option Addr) (c11 : Nat) (cs12 : List Value) (v14 : List (List Int)) (A15 : Option Addr) (c16 : Nat) (cs17 : List Value) (i6 : Nat) (H4 : IHeap), (v9, v14) = o3 ∧ Le H0 H4 ∧ St w0 H0 [] H4 (ol [(0, .blk g1 [(.slice A1_ p0.Gate.length c1_), (.slice A2_ p0.Experts.length c2_), (.int .i64 p0.Capacity)] 41), (1, .row A10 c11 197 eGateChoice.size v9.length cs12), (2, .row A15 c16 99 (eArr 2 (eInt .i64)).size v14.length cs17)]) w ∧ r 2 = (.pointer (some ⟨g1, 0, none⟩)) ∧ r 5 = (.slice A10 v9.length c11) ∧ r 6 = (.slice A15 v14.length c16) ∧ Rows eGateChoice H4 cs12 v9 ∧ Rows (eArr 2 (eInt .i64)) H4 cs17 v14) (fun k r w => ∃ (i6 : Nat) (rest7 : List (List Int)) (v9 : List GateChoice) (A10 : Option Addr) (c11 : Nat) (cs12 : List Value) (v14 : List (List Int)) (A15 : Option Addr) (c16 : Nat) (cs17 : List Value) (H4 : IHeap), k = rest7.length ∧ List.drop i6 p1 = rest7 ∧ model_Parts_l1 p0 rest7 i6 v9 v14 = some o3 ∧ Le H0 H4 ∧ St w0 H0 [] H4 (ol [(0, .blk g1 [(.slice A1_ p0.Gate.length c1_), (.slice A2_ p0.Experts.length c2_), (.int .i64 p0.Capacity)] 41), (1, .row A10 c11 197 eGateChoice.size v9.length cs12), (2, .row A15 c16 99 (eArr 2 (eInt .i64)).size v14.length cs17)]) w ∧ r 2 = (.pointer (some ⟨g1, 0, none⟩)) ∧ r 5 = (.slice A10 v9.length c11) ∧ r 6 = (.slice A15 v14.length c16) ∧ r 16 = (.slice A3_ p1.length c3_) ∧ r 17 = (.int .i64 (p1.length : Int)) ∧ r 18 = (.int .i64 (i6 : Int)) ∧ Rows eGateChoice H4 cs12 v9 ∧ Rows (eArr 2 (eInt .i64)) H4 cs17 v14) (List.length p1) ?_ ?_ ?_
 ·exact ⟨0, _, ([] : List GateChoice), none, 0, [], ([] : List (List Int)), none, 0, [], _, rfl, rfl, hm1, Le.refl _, hO, rfl, rfl, rfl, rfl, rfl, rfl, Rows.nil, Rows.nil⟩
 ·
  intro k r w
  rintro ⟨i6, rest7, v9, A10, c11, cs12, v14, A15, c16, cs17, H4, rfl, hd19, hm1, le5, hO, f2_1, f5_1, f6_1, f16_1, f17_1, f18_1, h13, h18⟩
  cases rest7 with
  | nil =>
   rw [model_Parts_l1] at hm1
   have hlt := drop_nil hd19
   refine seq (region (val (x_lss f18_1 f17_1) ?_))
   refine nil (seq (W.cond_f (kb rfl hlt) ?_))
   refine W.exit _ rfl ?_
   obtain rfl := sj hm1
   exact ⟨v9, A10, c11, cs12, v14, A15, c16, cs17, i6, H4, rfl, le5, hO.pick _ ⟨rfl, rfl, rfl, trivial⟩, f2_1, f5_1, f6_1, h13, h18⟩
  | cons x8 rest7 =>
   rw [model_Parts_l1] at hm1
   have hlt := drop_lt hd19
   have hnx := drop_next hd19
   have hinc := inc_len hlt h3_.1 h3_.2.1
   refine seq (region (val (x_lss f18_1 f17_1) ?_))
   refine nil (seq (W.cond_t (kb rfl hlt) ?_))
   refine skip (seq (W.block ?_))
   refine seq (region ?_)
   obtain ⟨a20, h21, hA22, hin⟩ := RS.atR (h3_.up le5) hd19
   refine val (x_ia (sA f16_1 hA22) f18_1 sle25 hin) ?_
   obtain ⟨A23, c24, h25, hc26⟩ := At.sl h21
   refine val (x_ldc rfl (hc26 _ hO.sub) one61) ?_
   refine val (x_assign (.slice A23 x8.length c24) rfl) ?_
   refine nil (seq (region (val (x_fa f2_1 fo41_0) ?_)))
   refine val (x_ld 0 (.slice A1_ p0.Gate.length c1_) hO rfl rfl rfl one25) ?_
   refine val (x_move (.slice A23 x8.length c24) rfl) ?_
   obtain ⟨t27, ht28, hm1⟩ := bindSome hm1
   refine o_call hO go123 (gate_Choose_ok hO.sub (h1_.up le5) h25 ht28) rfl ?_
   rintro _ H29 w30 le31 rfl hO
   refine val (x_move (.tuple #[(.agg #[(.int .i64 t27.1.First), (.int .i64 t27.1.Second), (.int .i64 t27.1.W1), (.int .i64 t27.1.W2)]), (.bool t27.2)]) rfl) ?_
   refine val (x_extract (.agg #[(.int .i64 t27.1.First), (.int .i64 t27.1.Second), (.int .i64 t27.1.W1), (.int .i64 t27.1.W2)]) rfl rfl) ?_
   refine val (x_extract (.bool t27.2) rfl rfl) ?_
   refine o_alloc 3 _ [(.int .i64 0), (.int .i64 0), (.int .i64 0), (.int .i64 0)] zer197 hO rfl ?_
   intro g32 w33 hO
   refine o_sts 3 [(.int .i64 t27.1.First), (.int .i64 t27.1.Second), (.int .i64 t27.1.W1), (.int .i64 t27.1.W2)] hO rfl rfl rfl siz197 rfl (Nat.le_of_ble_eq_true rfl) (by simp [Value.oneCell', vs]) ?_
   intro w34 hO
   refine val (x_assign (.bool t27.2) rfl) ?_
   refine nil (seq (region (val (x_move (.slice A10 v9.length c11) f5_1) ?_)))
   refine val (x_lds 3 [(.int .i64 t27.1.First), (.int .i64 t27.1.Second), (.int .i64 t27.1.W1), (.int .i64 t27.1.W2)] hO rfl rfl agg197 rfl rfl) ?_
   refine o_litT (en := eGateChoice) 4 [(.agg #[(.int .i64 t27.1.First), (.int .i64 t27.1.Second), (.int .i64 t27.1.W1), (.int .i64 t27.1.W2)])] ([(⟨t27.1.First, t27.1.Second, t27.1.W1, t27.1.W2⟩ : GateChoice)] : List GateChoice) hO sli196 ⟨rfl, trivial⟩ rfl rfl rfl ?_
   intro g35 cs36 w37 hr38 hO
   refine o_appT (en := eGateChoice) (xs := v9) (ys := ([(⟨t27.1.First, t27.1.Second, t27.1.W1, t27.1.W2⟩ : GateChoice)] : List GateChoice)) 1 hO rfl (h13.up le31) rfl rfl (Src.row (k := 4) hO rfl) hr38 sli196 rfl rfl underlying196 hm1 ?_
   intro A39 c40 cs41 w42 hr43 hO hm1
   refine val (x_assign (.slice A39 (v9 ++ ([(⟨t27.1.First, t27.1.Second, t27.1.W1, t27.1.W2⟩ : GateChoice)] : List GateChoice)).length c40) rfl) ?_
   refine nil (region (val (x_move (.slice A15 v14.length c16) f6_1) ?_))
   refine val (x_fa rfl fo197_0) ?_
   refine val (x_ld 3 (.int .i64 t27.1.First) hO rfl rfl rfl one3) ?_
   refine val (x_fa rfl fo197_1) ?_
   refine val (x_ld 3 (.int .i64 t27.1.Second) hO rfl rfl rfl one3) ?_
   have hr44 : Enc.rep (eArr 2 (eInt .i64)) H29 ([(.int .i64 t27.1.First), (.int .i64 t27.1.Second)] : List Value) [t27.1.First, t27.1.Second] := ⟨(Rows.cons (c1 := ([(.int .i64 t27.1.First)] : List Value)) rfl (Rows.cons (c1 := ([(.int .i64 t27.1.Second)] : List Value)) rfl Rows.nil)), rfl⟩
   refine val (x_build [(0, (.int .i64 t27.1.First)), (1, (.int .i64 t27.1.Second))] ([(.int .i64 t27.1.First), (.int .i64 t27.1.Second)] : List Value) ⟨rfl, rfl, rfl, rfl, trivial⟩ (by kernel_rfl)) ?_
   refine o_litT (en := (eArr 2 (eInt .i64))) 5 [(.agg #[(.int .i64 t27.1.First), (.int .i64 t27.1.Second)])] ([[t27.1.First, t27.1.Second]] : List (List Int)) hO sli94 ⟨hr44, trivial⟩ rfl rfl rfl ?_
   intro g45 cs46 w47 hr48 hO
   refine o_appT (en := (eArr 2 (eInt .i64))) (xs := v14) (ys := ([[t27.1.First, t27.1.Second]] : List (List Int))) 2 hO rfl (h18.up le31) rfl rfl (Src.row (k := 5) hO rfl) hr48 sli94 rfl rfl underlying94 hm1 ?_
   intro A49 c50 cs51 w52 hr53 hO hm1
   refine val (x_assign (.slice A49 (v14 ++ ([[t27.1.First, t27.1.Second]] : List (List Int))).length c50) rfl) ?_
   refine nil (region (val (x_add f18_1 rfl) ?_))
   refine val (x_move (.int .i64 (i64w ((i6 : Int) + 1))) rfl) ?_
   refine nil ?_
   exact ⟨_, Nat.lt_succ_self _, i6 + 1, rest7, (v9 ++ ([(⟨t27.1.First, t27.1.Second, t27.1.W1, t27.1.W2⟩ : GateChoice)] : List GateChoice)), A39, c40, cs41, (v14 ++ ([[t27.1.First, t27.1.Second]] : List (List Int))), A49, c50, cs51, H29, rfl, hnx, hm1, (le5.trans le31), hO.pick _ ⟨rfl, rfl, rfl, trivial⟩, f2_1, rfl, rfl, f16_1, f17_1, (incv hinc), hr43, hr53⟩
 ·intro r w
  rintro ⟨v56, A57, c58, cs60, v61, A62, c63, cs65, i66, H54, rfl, le55, hO, f67, f68, f69, h59, h64⟩
  dsimp only at hm0
  refine seq (region (val (x_assign (.slice none 0 0) rfl) ?_))
  refine nil (seq (seq (region (val (x_move (.slice A62 v61.length c63) f69) ?_))))
  refine val (x_fa f67 fo41_1) ?_
  refine val (x_ld 0 (.slice A2_ p0.Experts.length c2_) hO rfl rfl rfl one39) ?_
  refine val (x_len rfl underlying39) ?_
  refine val (x_fa f67 fo41_2) ?_
  refine val (x_ld 0 (.int .i64 p0.Capacity) hO rfl rfl rfl one3) ?_
  obtain ⟨H70, le71, h72, hO⟩ := hO.freezeRow (en := (eArr 2 (eInt .i64))) 2 rfl rfl rfl h64
  obtain ⟨t73, ht74, hm0⟩ := bindSome hm0
  refine o_call hO go124 (slots_Assign_ok hO.sub h72 ht74) rfl ?_
  rintro _ H75 w76 le77 ⟨A78, c79, rfl, h80⟩ hO
  refine val (x_len rfl underlying94) ?_
  refine val (x_move (.int .i64 0) rfl) ?_
  refine nil ?_
  obtain ⟨H81, le82, h83, hO⟩ := hO.freezeRow (en := eGateChoice) 1 rfl rfl rfl (h59.up (le71.trans le77))
  have hO := hO.nilRowT (α := ModelPart) 6 none 145 eModelPart
  obtain ⟨o84, hm1, hm0⟩ := bindSome hm0
  have hO := hO.pick [(6, .row none 0 145 eModelPart.size ([] : List ModelPart).length [])] ⟨rfl, trivial⟩
  refine W.blockLoop (fun r w => ∃ (v90 : List ModelPart) (A91 : Option Addr) (c92 : Nat) (cs93 : List Value) (i87 : Nat) (H85 : IHeap), v90 = o84 ∧ Le H81 H85 ∧ St w0 H0 [] H85 (ol [(6, .row A91 c92 145 eModelPart.size v90.length cs93)]) w ∧ r 11 = (.slice A91 v90.length c92) ∧ Rows eModelPart H85 cs93 v90) (fun k r w => ∃ (i87 : Nat) (rest88 : List (List Int)) (v90 : List ModelPart) (A91 : Option Addr) (c92 : Nat) (cs93 : List Value) (H85 : IHeap), k = rest88.length ∧ List.drop i87 t73 = rest88 ∧ model_Parts_l2 v56 v61 rest88 i87 v90 = some o84 ∧ Le H81 H85 ∧ St w0 H0 [] H85 (ol [(6, .row A91 c92 145 eModelPart.size v90.length cs93)]) w ∧ r 5 = (.slice A57 v56.length c58) ∧ r 6 = (.slice A62 v61.length c63) ∧ r 11 = (.slice A91 v90.length c92) ∧ r 48 = (.slice A78 t73.length c79) ∧ r 49 = (.int .i64 (t73.length : Int)) ∧ r 50 = (.int .i64 (i87 : Int)) ∧ Rows eModelPart H85 cs93 v90) (List.length t73) ?_ ?_ ?_
  ·exact ⟨0, _, ([] : List ModelPart), none, 0, [], _, rfl, rfl, hm1, Le.refl _, hO, f68, f69, rfl, rfl, rfl, rfl, Rows.nil⟩
  ·
   intro k r w
   rintro ⟨i87, rest88, v90, A91, c92, cs93, H85, rfl, hd95, hm1, le86, hO, f5_2, f6_2, f11_2, f48_2, f49_2, f50_2, h94⟩
   cases rest88 with
   | nil =>
    rw [model_Parts_l2] at hm1
    have hlt := drop_nil hd95
    refine seq (region (val (x_lss f50_2 f49_2) ?_))
    refine nil (seq (W.cond_f (kb rfl hlt) ?_))
    refine W.exit _ rfl ?_
    obtain rfl := sj hm1
    exact ⟨v90, A91, c92, cs93, i87, H85, rfl, le86, hO.pick _ ⟨rfl, trivial⟩, f11_2, h94⟩
   | cons x89 rest88 =>
    rw [model_Parts_l2] at hm1
    have hlt := drop_lt hd95
    have hnx := drop_next hd95
    have hinc := inc_len hlt (h80.up le82).1 (h80.up le82).2.1
    refine seq (region (val (x_lss f50_2 f49_2) ?_))
    refine nil (seq (W.cond_t (kb rfl hlt) ?_))
    refine skip (seq (W.block ?_))
    refine seq (region (val (x_move (.int .i64 (i87 : Int)) f50_2) ?_))
    obtain ⟨a96, h97, hA98, hin⟩ := RS.atR (h80.up (le82.trans le86)) hd95
    refine val (x_ia (sA f48_2 hA98) f50_2 sle94 hin) ?_
    obtain ⟨cs99, hr100, hc101⟩ := At.agg h97
    refine val (x_ldv rfl (hc101 _ _ _ hO.sub agg99)) ?_
    refine o_alloc 7 _ zc99 zer99 hO rfl ?_
    intro g102 w103 hO
    refine val (x_assign (.int .i64 (i87 : Int)) rfl) ?_
    refine o_stP (us := cs99) 7 (.agg cs99.toArray) hO rfl (zr99 _) (Lens.refl _) rfl rfl rfl hr100 siz99 ?_
    intro cs104 w105 (hr106 : Enc.rep (eArr 2 (eInt .i64)) H85 cs104 x89) hO
    refine nil (seq (region (val (x_lds 7 cs104 hO rfl rfl agg99 (whole_take (rep_len hr106 rfl)) (rep_len hr106 rfl)) ?_)))
    refine val (x_move (.int .i64 0) rfl) ?_
    refine nil ?_
    obtain ⟨hlim3, hm1⟩ := chk hm1
    obtain ⟨o107, hm2, hm1⟩ := bindSome hm1
    have hO := hO.pick [(6, .row A91 c92 145 eModelPart.size v90.length cs93)] ⟨rfl, trivial⟩
    refine W.blockLoop (fun r w => ∃ (v113 : List ModelPart) (A114 : Option Addr) (c115 : Nat) (cs116 : List Value) (i110 : Nat) (H108 : IHeap), v113 = o107 ∧ Le H85 H108 ∧ St w0 H0 [] H108 (ol [(6, .row A114 c115 145 eModelPart.size v113.length cs116)]) w ∧ r 5 = (.slice A57 v56.length c58) ∧ r 6 = (.slice A62 v61.length c63) ∧ r 11 = (.slice A114 v113.length c115) ∧ r 48 = (.slice A78 t73.length c79) ∧ r 49 = (.int .i64 (t73.length : Int)) ∧ r 50 = (.int .i64 (i87 : Int)) ∧ Rows eModelPart H108 cs116 v113) (fun k r w => ∃ (i110 : Nat) (rest111 : Nat) (v113 : List ModelPart) (A114 : Option Addr) (c115 : Nat) (cs116 : List Value) (H108 : IHeap), rest111 = k ∧ Int.toNat (2 - (i110 : Int)) = rest111 ∧ model_Parts_l3 i87 v56 v61 x89 rest111 i110 v113 = some o107 ∧ Le H85 H108 ∧ St w0 H0 [] H108 (ol [(6, .row A114 c115 145 eModelPart.size v113.length cs116)]) w ∧ r 5 = (.slice A57 v56.length c58) ∧ r 6 = (.slice A62 v61.length c63) ∧ r 11 = (.slice A114 v113.length c115) ∧ r 12 = (.int .i64 (i87 : Int)) ∧ r 48 = (.slice A78 t73.length c79) ∧ r 49 = (.int .i64 (t73.length : Int)) ∧ r 50 = (.int .i64 (i87 : Int)) ∧ r 55 = (.agg cs104.toArray) ∧ r 56 = (.int .i64 (i110 : Int)) ∧ Rows eModelPart H108 cs116 v113) (Int.toNat 2) ?_ ?_ ?_
    ·exact ⟨0, _, v90, A91, c92, cs93, _, rfl, cnt_init _, hm2, Le.refl _, hO, f5_2, f6_2, f11_2, rfl, f48_2, f49_2, f50_2, rfl, rfl, h94⟩
    ·
     intro k r w
     rintro ⟨i110, rest111, v113, A114, c115, cs116, H108, rfl, hd118, hm2, le109, hO, f5_3, f6_3, f11_3, f12_3, f48_3, f49_3, f50_3, f55_3, f56_3, h117⟩
     cases rest111 with
     | zero =>
      rw [model_Parts_l3] at hm2
      have hlt := cnt_zero hd118
      refine seq (region (val (x_lss f56_3 rfl) ?_))
      refine nil (seq (W.cond_f (kb rfl hlt) ?_))
      refine W.exit _ rfl ?_
      obtain rfl := sj hm2
      exact ⟨v113, A114, c115, cs116, i110, H108, rfl, le109, hO.pick _ ⟨rfl, trivial⟩, f5_3, f6_3, f11_3, f48_3, f49_3, f50_3, h117⟩
     | succ rest111 =>
      rw [model_Parts_l3] at hm2
      have hlt := cnt_lt hd118
      have hnx := cnt_next hd118
      have hinc := inc_lim hlt hlim3
      refine seq (region (val (x_lss f56_3 rfl) ?_))
      refine nil (seq (W.cond_t (kb rfl hlt) ?_))
      refine skip (seq (W.block ?_))
      refine seq (region (val (x_move (.int .i64 (i110 : Int)) f56_3) ?_))
      obtain ⟨hin119, hm2⟩ := chk hm2
      refine val (x_ixArrI (xs := x89) (Enc.mono _ le109 hr106) are99 underlying99 one3 f55_3 f56_3 hin119) ?_
      refine val (x_assign (.int .i64 (i110 : Int)) rfl) ?_
      refine val (x_assign (.int .i64 (at0 x89 (i110 : Int))) rfl) ?_
      refine nil (seq (region (val (x_move (.int .i64 (at0 x89 (i110 : Int))) rfl) ?_)))
      refine val (x_geq rfl rfl) ?_
      refine nil (test rfl hm2 ?_ ?_)
      ·intro hb120 hm2
       have hO := hO.pick [(6, .row A114 c115 145 eModelPart.size v113.length cs116)] ⟨rfl, trivial⟩
       refine W.draw (SD w0 H0 [] H108 []) (fun i => ([] : List Nat).contains i) mixed 27 rfl _ rfl ?_
       intro w121 hh1 hh2 hh3 hh4; have hO := hO.same hh1 hh2 hh3 hh4; clear hh1 hh2 hh3 hh4
       have hS : SD w0 H0 [] H108 [] w121 := ⟨_, _, Le.refl _, hO, trivial⟩
       refine take (i := 0) rfl (by kernel_rfl) (fun w hS => x_move (.slice A114 v113.length c115) f11_3) hS ?_
       refine take (i := 1) rfl (by kernel_rfl) (fun w hS => x_move (.int .i64 (i87 : Int)) f12_3) hS ?_
       refine take (i := 2) rfl (by kernel_rfl) (fun w hS => x_move (.int .i64 (i110 : Int)) rfl) hS ?_
       refine take (i := 3) rfl (by kernel_rfl) (fun w hS => x_move (.slice A62 v61.length c63) f6_3) hS ?_
       refine take (i := 4) rfl (by kernel_rfl) (fun w hS => x_move (.int .i64 (i87 : Int)) f12_3) hS ?_
       refine take (i := 5) rfl (by kernel_rfl) (fun w hS => x_move (.int .i64 (i110 : Int)) rfl) hS ?_
       obtain ⟨hin125, hm2⟩ := chk hm2
       obtain ⟨a122, h123, hA124⟩ := RS.at_ (h72.up (le77.trans (le82.trans (le86.trans le109)))) hin125
       refine take (i := 6) rfl (by kernel_rfl) (fun w hS => x_ia (sA rfl hA124) rfl sle94 hin125) hS ?_
       obtain ⟨hin126, hm2⟩ := chk hm2
       refine take (i := 7) rfl (by kernel_rfl) (fun w hS => x_iaAt rfl h123 rfl are99 hin126) hS ?_
       refine take (i := 8) rfl (by kernel_rfl) (fun w hS => x_ldc rfl ((h123.part (lens_idx (n := 2) (eInt .i64) hin126).part).int _ hS.sub) one3) hS ?_
       refine take (i := 9) rfl (by kernel_rfl) (fun w hS => x_move (.slice A57 v56.length c58) f5_3) hS ?_
       refine take (i := 10) rfl (by kernel_rfl) (fun w hS => x_move (.int .i64 (i87 : Int)) f12_3) hS ?_
       obtain ⟨hin130, hm2⟩ := chk hm2
       obtain ⟨a127, h128, hA129⟩ := RS.at_ (h83.up (le86.trans le109)) hin130
       refine take (i := 11) rfl (by kernel_rfl) (fun w hS => x_ia (sA rfl hA129) rfl sle196 hin130) hS ?_
       refine take (i := 12) rfl (by kernel_rfl) (fun w hS => x_faAt rfl h128 fo197_2) hS ?_
       refine take (i := 13) rfl (by kernel_rfl) (fun w hS => x_ldc rfl ((h128.part pGateChoice_W1).int _ hS.sub) one3) hS ?_
       refine take (i := 14) rfl (by kernel_rfl) (fun w hS => x_move (.slice A57 v56.length c58) f5_3) hS ?_
       refine take (i := 15) rfl (by kernel_rfl) (fun w hS => x_move (.int .i64 (i87 : Int)) f12_3) hS ?_
       obtain ⟨hin134, hm2⟩ := chk hm2
       obtain ⟨a131, h132, hA133⟩ := RS.at_ (h83.up (le86.trans le109)) hin134
       refine take (i := 16) rfl (by kernel_rfl) (fun w hS => x_ia (sA rfl hA133) rfl sle196 hin134) hS ?_
       refine take (i := 17) rfl (by kernel_rfl) (fun w hS => x_faAt rfl h132 fo197_3) hS ?_
       refine take (i := 18) rfl (by kernel_rfl) (fun w hS => x_ldc rfl ((h132.part pGateChoice_W2).int _ hS.sub) one3) hS ?_
       refine take (i := 20) rfl (by kernel_rfl) (fun w hS => x_move (.int .i64 (i110 : Int)) rfl) hS ?_
       refine WA.only (i := 19) (by kernel_rfl) rfl ?_
       refine o_litT (en := (eInt .i64)) 8 [(.int .i64 ((at0 v56 (i87 : Int)).W1)), (.int .i64 ((at0 v56 (i87 : Int)).W2))] ([(at0 v56 (i87 : Int)).W1, (at0 v56 (i87 : Int)).W2] : List Int) hO sli61 ⟨rfl, rfl, trivial⟩ rfl rfl rfl ?_
       intro g135 cs136 w137 hr138 hO
       have hS : SD w0 H0 [] H108 [] _ := ⟨_, _, (Le.refl _), hO, trivial⟩
       refine nil ⟨fun _ => hS, ?_⟩
       obtain ⟨hin139, hm2⟩ := chk hm2
       obtain ⟨hc140, g141, o142, hA143⟩ := hO.rowA (k := 8) rfl hin139
       refine take (i := 21) rfl (by kernel_rfl) (fun w hS => x_ia (sA rfl hA143) rfl sle61 hin139) hS ?_
       refine WA.only (i := 22) (by kernel_rfl) rfl ?_
       obtain ⟨cs144, hr145, hc146⟩ := row_elem (en := (eInt .i64)) (k := 8) hO rfl hr138 hc140 hA143 (at0_some hin139)
       obtain rfl := hr145
       refine val (x_ldc rfl (by rw [addr_add]; exact hc146 0 _ rfl) one3) ?_
       have hS : SD w0 H0 [] H108 [] _ := ⟨_, _, (Le.refl _), hO, trivial⟩
       refine nil ⟨fun _ => hS, ?_⟩
       refine take (i := 23) rfl (by kernel_rfl) (fun w hS => x_build [(0, (.int .i64 (i87 : Int))), (1, (.int .i64 (i110 : Int))), (2, (.int .i64 (at0 (at0 v61 (i87 : Int)) (i110 : Int)))), (3, (.int .i64 (at0 ([(at0 v56 (i87 : Int)).W1, (at0 v56 (i87 : Int)).W2] : List Int) (i110 : Int))))] [(.int .i64 (i87 : Int)), (.int .i64 (i110 : Int)), (.int .i64 (at0 (at0 v61 (i87 : Int)) (i110 : Int))), (.int .i64 (at0 ([(at0 v56 (i87 : Int)).W1, (at0 v56 (i87 : Int)).W2] : List Int) (i110 : Int)))] ⟨rfl, rfl, rfl, rfl, rfl, rfl, rfl, rfl, trivial⟩ (by kernel_rfl)) hS ?_
       refine WA.only (i := 24) (by kernel_rfl) rfl ?_
       refine o_litT (en := eModelPart) 9 [(.agg #[(.int .i64 (i87 : Int)), (.int .i64 (i110 : Int)), (.int .i64 (at0 (at0 v61 (i87 : Int)) (i110 : Int))), (.int .i64 (at0 ([(at0 v56 (i87 : Int)).W1, (at0 v56 (i87 : Int)).W2] : List Int) (i110 : Int)))])] ([(⟨(i87 : Int), (i110 : Int), (at0 (at0 v61 (i87 : Int)) (i110 : Int)), (at0 ([(at0 v56 (i87 : Int)).W1, (at0 v56 (i87 : Int)).W2] : List Int) (i110 : Int))⟩ : ModelPart)] : List ModelPart) hO sli90 ⟨rfl, trivial⟩ rfl rfl rfl ?_
       intro g147 cs148 w149 hr150 hO
       have hS : SD w0 H0 [] H108 [] _ := ⟨_, _, (Le.refl _), hO, trivial⟩
       refine nil ⟨fun _ => hS, ?_⟩
       refine WA.only (i := 25) (by kernel_rfl) rfl ?_
       refine o_appT (en := eModelPart) (xs := v113) (ys := ([(⟨(i87 : Int), (i110 : Int), (at0 (at0 v61 (i87 : Int)) (i110 : Int)), (at0 ([(at0 v56 (i87 : Int)).W1, (at0 v56 (i87 : Int)).W2] : List Int) (i110 : Int))⟩ : ModelPart)] : List ModelPart)) 6 hO rfl h117 rfl rfl (Src.row (k := 9) hO rfl) hr150 sli90 rfl rfl underlying90 hm2 ?_
       intro A151 c152 cs153 w154 hr155 hO hm2
       have hS : SD w0 H0 [] H108 [] _ := ⟨_, _, (Le.refl _), hO, trivial⟩
       refine nil ⟨fun _ => hS, ?_⟩
       refine take (i := 26) rfl (by kernel_rfl) (fun w hS => x_assign (.slice A151 (v113 ++ ([(⟨(i87 : Int), (i110 : Int), (at0 (at0 v61 (i87 : Int)) (i110 : Int)), (at0 ([(at0 v56 (i87 : Int)).W1, (at0 v56 (i87 : Int)).W2] : List Int) (i110 : Int))⟩ : ModelPart)] : List ModelPart)).length c152) rfl) hS ?_
       refine WA.done (by kernel_rfl) ?_
       refine region (val (x_add f56_3 rfl) ?_)
       refine val (x_move (.int .i64 (i64w ((i110 : Int) + 1))) rfl) ?_
       refine nil ?_
       exact ⟨_, Nat.lt_succ_self _, i110 + 1, rest111, (v113 ++ ([(⟨(i87 : Int), (i110 : Int), (at0 (at0 v61 (i87 : Int)) (i110 : Int)), (at0 ([(at0 v56 (i87 : Int)).W1, (at0 v56 (i87 : Int)).W2] : List Int) (i110 : Int))⟩ : ModelPart)] : List ModelPart)), A151, c152, cs153, H108, rfl, hnx, hm2, le109, hO.pick _ ⟨rfl, trivial⟩, f5_3, f6_3, rfl, f12_3, f48_3, f49_3, f50_3, f55_3, (incv hinc), hr155⟩
      ·intro hb120 hm2
       refine skip (region (val (x_add f56_3 rfl) ?_))
       refine val (x_move (.int .i64 (i64w ((i110 : Int) + 1))) rfl) ?_
       refine nil ?_
       exact ⟨_, Nat.lt_succ_self _, i110 + 1, rest111, v113, A114, c115, cs116, H108, rfl, hnx, hm2, le109, hO.pick _ ⟨rfl, trivial⟩, f5_3, f6_3, f11_3, f12_3, f48_3, f49_3, f50_3, f55_3, (incv hinc), h117⟩
    ·intro r w
     rintro ⟨v158, A159, c160, cs162, i163, H156, rfl, le157, hO, f164, f165, f166, f167, f168, f169, h161⟩
     refine region (val (x_add f169 rfl) ?_)
     refine val (x_move (.int .i64 (i64w ((i87 : Int) + 1))) rfl) ?_
     refine nil ?_
     exact ⟨_, Nat.lt_succ_self _, i87 + 1, rest88, v158, A159, c160, cs162, H156, rfl, hnx, hm1, (le86.trans le157), hO.pick _ ⟨rfl, trivial⟩, f164, f165, f166, f167, f168, (incv hinc), h161⟩
  ·intro r w
   rintro ⟨v172, A173, c174, cs176, i177, H170, rfl, le171, hO, f178, h175⟩
   refine seq (region (val (x_move (.slice A173 v172.length c174) f178) ?_))
   refine val (x_assign (.slice A173 v172.length c174) rfl) ?_
   refine nil (W.ret ?_)
   obtain ⟨H179, le180, h181, hO⟩ := hO.freezeRow (en := eModelPart) 6 rfl rfl rfl h175
   obtain rfl := sj hm0
   exact ⟨H179, ⟨A173, c174, rfl, h181⟩, hO.done⟩
end Go.Sw

/- The calls compute the mirrors. -/
import Derived.Test.YtahaedoeckgidaaGreatZgF
import Derived.Test.YtahaedoeckgidaaGreatZgC0
set_option linter.unusedVariables false
set_option linter.unusedSimpArgs false
set_option maxRecDepth 100000
namespace Go.Sw
open WL (val nil gval yes no)
open W (region test seq skip)
open WA (take)
open Go.Proofs.Tryz
open Go.Proofs
theorem switchboardref15_Tokens_ok {w0 : World} {H0 : IHeap} (hS : Sub H0 w0) {p0 : ApiModel} {p1 : List (List Int)}  {A1_ : Option Addr} {c1_ : Nat} {A2_ : Option Addr} {c2_ : Nat} (h1_ : RS eApiLayer H0 A1_ c1_ p0.Layers) (h2_ : RS (eSl (eInt .i64)) H0 A2_ c2_ p1) {res : Bool} (hm0 : switchboardref15_Tokens p0 p1 = some res) :
  Ok prog 31 [(.agg #[(.int .i64 p0.Dim), (.slice A1_ p0.Layers.length c1_)]), (.slice A2_ p1.length c2_)].toArray w0 H0 (fun H' v => v = (.bool res)) := by
 unfold switchboardref15_Tokens at hm0
 refine ok_of_W Tryz.func31 rfl Tryz.ntmps31 (ts := [4]) rfl rfl rfl ?_
 have hO := St.start hS
 refine seq (region (o_box 0 [(.int .i64 p0.Dim), (.slice A1_ p0.Layers.length c1_)] hO rfl ?_))
 intro g1 w2 hO
 refine val (x_assign (.bool false) rfl) ?_
 refine nil (seq (region (val (x_move (.slice A2_ p1.length c2_) rfl) ?_)))
 refine val (x_len rfl underlying25) ?_
 refine val (x_gtr rfl rfl) ?_
 refine val (x_move (.bool (decide (0 < (p1.length : Int)))) rfl) ?_
 refine gval rfl rfl (fun hb => x_move (.slice A2_ p1.length c2_) rfl) ?_
 refine gval rfl rfl (fun hb => x_len (gv hb) underlying25) ?_
 refine gval rfl rfl (fun hb => x_lss (gv hb) rfl) ?_
 refine val (x_pick rfl (.bool ((decide (0 < (p1.length : Int))) && (decide ((p1.length : Int) < 17)))) pick_and) ?_
 refine val (x_move (.bool ((decide (0 < (p1.length : Int))) && (decide ((p1.length : Int) < 17)))) rfl) ?_
 refine gval rfl rfl (fun hb => x_move (.slice A2_ p1.length c2_) rfl) ?_
 refine gval rfl rfl (fun hb => x_move (.slice A2_ p1.length c2_) rfl) ?_
 refine gval rfl rfl (fun hb => x_len (gv hb) underlying25) ?_
 refine gval rfl rfl (fun hb => x_fa rfl fo24_0) ?_
 refine gval rfl rfl (fun hb => x_ld 0 (.int .i64 p0.Dim) hO rfl (gv hb) rfl one3) ?_
 rcases btest hm0 with ⟨hb3, hm0⟩ | ⟨hb3, hm0⟩
 ·refine yes rfl (kb rfl hb3) ?_
  obtain ⟨t4, ht5, hm0⟩ := bindSome hm0
  refine o_call hO go53 (switchboardref03_Right_ok hO.sub h2_ ht5) (args3 (by exact gkT hb3) (by exact gkT hb3) (by exact gkT hb3)) ?_
  rintro _ H6 w7 le8 rfl hO
  refine val (x_pick_t (kb rfl hb3) (.bool t4) rfl) ?_
  refine val (x_assign (.bool t4) rfl) ?_
  refine nil (W.ret ?_)
  obtain rfl := sj hm0
  exact ⟨H6, rfl, hO.done⟩
 ·refine no rfl (kb rfl hb3) rfl ?_
  refine val (x_pick_f (kb rfl hb3) (.bool false) rfl) ?_
  refine val (x_assign (.bool false) rfl) ?_
  refine nil (W.ret ?_)
  obtain rfl := sj hm0
  exact ⟨H0, rfl, hO.done⟩
theorem switchboardref17_Right_ok {w0 : World} {H0 : IHeap} (hS : Sub H0 w0) {p0 : PlaceMap}  {A1_ : Option Addr} {c1_ : Nat} (h1_ : RS (eSl (eInt .i64)) H0 A1_ c1_ p0.Holders) {res : Bool} (hm0 : switchboardref17_Right p0 = some res) :
  Ok prog 32 [(.agg #[(.int .i64 p0.Epoch), (.slice A1_ p0.Holders.length c1_)])].toArray w0 H0 (fun H' v => v = (.bool res)) := by
 unfold switchboardref17_Right at hm0
 refine ok_of_W Tryz.func32 rfl Tryz.ntmps32 (ts := [2]) rfl rfl rfl ?_
 have hO := St.start hS
 refine seq (region (o_box 0 [(.int .i64 p0.Epoch), (.slice A1_ p0.Holders.length c1_)] hO rfl ?_))
 intro g1 w2 hO
 refine val (x_assign (.bool false) rfl) ?_
 refine nil (seq (seq (region (val (x_fa rfl fo31_0) ?_))))
 refine val (x_ld 0 (.int .i64 p0.Epoch) hO rfl rfl rfl one3) ?_
 refine val (x_lss rfl rfl) ?_
 refine val (x_move (.bool (decide (p0.Epoch < 0))) rfl) ?_
 refine gval rfl rfl (fun hb => x_fa rfl fo31_0) ?_
 refine gval rfl rfl (fun hb => x_ld 0 (.int .i64 p0.Epoch) hO rfl (gv hb) rfl one3) ?_
 refine gval rfl rfl (fun hb => x_gtr (gv hb) rfl) ?_
 refine val (x_pick rfl (.bool ((decide (p0.Epoch < 0)) || (decide (2147483647 < p0.Epoch)))) pick_or) ?_
 refine val (x_move (.bool ((decide (p0.Epoch < 0)) || (decide (2147483647 < p0.Epoch)))) rfl) ?_
 refine gval rfl rfl (fun hb => x_fa rfl fo31_1) ?_
 refine gval rfl rfl (fun hb => x_ld 0 (.slice A1_ p0.Holders.length c1_) hO rfl (gv hb) rfl one25) ?_
 refine gval rfl rfl (fun hb => x_len (gv hb) underlying25) ?_
 refine gval rfl rfl (fun hb => x_gtr (gv hb) rfl) ?_
 refine val (x_pick rfl (.bool (((decide (p0.Epoch < 0)) || (decide (2147483647 < p0.Epoch))) || (decide (8 < (p0.Holders.length : Int))))) pick_or) ?_
 refine nil (test rfl hm0 ?_ ?_)
 ·intro hb3 hm0
  refine seq (region (val (x_assign (.bool false) rfl) ?_))
  refine nil (W.ret ?_)
  obtain rfl := sj hm0
  exact ⟨H0, rfl, hO.done⟩
 ·intro hb3 hm0
  refine skip (seq (seq (region (val (x_assign (.int .i64 0) rfl) ?_))))
  refine nil ?_
  obtain ⟨o4, hm1, hm0⟩ := bindSome hm0
  have hO := hO.pick [(0, .blk g1 [(.int .i64 p0.Epoch), (.slice A1_ p0.Holders.length c1_)] 31)] ⟨rfl, trivial⟩
  refine W.blockLoop (fun r w => ∃ (v10 : Int) (H5 : IHeap), .out v10 = o4 ∧ Le H0 H5 ∧ St w0 H0 [] H5 (ol [(0, .blk g1 [(.int .i64 p0.Epoch), (.slice A1_ p0.Holders.length c1_)] 31)]) w) (fun k r w => ∃ (rest8 : Nat) (v10 : Int) (H5 : IHeap), rest8 = k ∧ switchboardref17_Right_l1 p0 rest8 v10 = some o4 ∧ Le H0 H5 ∧ St w0 H0 [] H5 (ol [(0, .blk g1 [(.int .i64 p0.Epoch), (.slice A1_ p0.Holders.length c1_)] 31)]) w ∧ r 1 = (.pointer (some ⟨g1, 0, none⟩)) ∧ r 3 = (.int .i64 v10)) FUEL ?_ ?_ ?_
  ·exact ⟨_, 0, _, rfl, hm1, Le.refl _, hO, rfl, rfl⟩
  ·
   intro k r w
   rintro ⟨rest8, v10, H5, rfl, hm1, le6, hO, f1_1, f3_1⟩
   cases rest8 with
   | zero => rw [switchboardref17_Right_l1] at hm1; cases hm1
   | succ rest8 =>
    rw [switchboardref17_Right_l1] at hm1
    refine seq (seq (region (val (x_move (.int .i64 v10) f3_1) ?_)))
    refine val (x_fa f1_1 fo31_1) ?_
    refine val (x_ld 0 (.slice A1_ p0.Holders.length c1_) hO rfl rfl rfl one25) ?_
    refine val (x_len rfl underlying25) ?_
    refine val (x_lss rfl rfl) ?_
    refine nil (test rfl hm1 ?_ ?_)
    ·intro hb11 hm1
     refine skip (seq (W.block ?_))
     refine seq (region (val (x_fa f1_1 fo31_1) ?_))
     refine val (x_ld 0 (.slice A1_ p0.Holders.length c1_) hO rfl rfl rfl one25) ?_
     refine val (x_move (.int .i64 v10) f3_1) ?_
     obtain ⟨hin15, hm1⟩ := chk hm1
     obtain ⟨a12, h13, hA14⟩ := RS.at_ (h1_.up le6) hin15
     refine val (x_ia (sA rfl hA14) rfl sle25 hin15) ?_
     obtain ⟨A16, c17, h18, hc19⟩ := At.sl h13
     refine val (x_ldc rfl (hc19 _ hO.sub) one61) ?_
     refine val (x_assign (.slice A16 (at0 p0.Holders v10).length c17) rfl) ?_
     refine nil (seq (seq (region (val (x_move (.slice A16 (at0 p0.Holders v10).length c17) rfl) ?_))))
     refine val (x_len rfl underlying61) ?_
     refine val (x_eql rfl rfl) ?_
     refine nil (test rfl hm1 ?_ ?_)
     ·intro hb20 hm1
      refine seq (region (val (x_assign (.bool false) rfl) ?_))
      refine nil (W.ret ?_)
      obtain rfl := sj hm1
      dsimp only at hm0
      obtain rfl := sj hm0
      exact ⟨H5, rfl, hO.done⟩
     ·intro hb20 hm1
      refine skip (seq (region (val (x_assign (.int .i64 0) rfl) ?_)))
      refine nil ?_
      obtain ⟨o21, hm2, hm1⟩ := bindSome hm1
      have hO := hO.pick [(0, .blk g1 [(.int .i64 p0.Epoch), (.slice A1_ p0.Holders.length c1_)] 31)] ⟨rfl, trivial⟩
      refine W.blockLoop (fun r w => ∃ (v27 : Int) (H22 : IHeap), .out v27 = o21 ∧ Le H5 H22 ∧ St w0 H0 [] H22 (ol [(0, .blk g1 [(.int .i64 p0.Epoch), (.slice A1_ p0.Holders.length c1_)] 31)]) w ∧ r 1 = (.pointer (some ⟨g1, 0, none⟩)) ∧ r 3 = (.int .i64 v10)) (fun k r w => ∃ (rest25 : Nat) (v27 : Int) (H22 : IHeap), rest25 = k ∧ switchboardref17_Right_l2 p0 v10 rest25 v27 = some o21 ∧ Le H5 H22 ∧ St w0 H0 [] H22 (ol [(0, .blk g1 [(.int .i64 p0.Epoch), (.slice A1_ p0.Holders.length c1_)] 31)]) w ∧ r 1 = (.pointer (some ⟨g1, 0, none⟩)) ∧ r 3 = (.int .i64 v10) ∧ r 4 = (.slice A16 (at0 p0.Holders v10).length c17) ∧ r 5 = (.int .i64 v27)) FUEL ?_ ?_ ?_
      ·exact ⟨_, 0, _, rfl, hm2, Le.refl _, hO, f1_1, f3_1, rfl, rfl⟩
      ·
       intro k r w
       rintro ⟨rest25, v27, H22, rfl, hm2, le23, hO, f1_2, f3_2, f4_2, f5_2⟩
       cases rest25 with
       | zero => rw [switchboardref17_Right_l2] at hm2; cases hm2
       | succ rest25 =>
        rw [switchboardref17_Right_l2] at hm2
        refine seq (seq (region (val (x_move (.int .i64 v27) f5_2) ?_)))
        refine val (x_move (.slice A16 (at0 p0.Holders v10).length c17) f4_2) ?_
        refine val (x_len rfl underlying61) ?_
        refine val (x_lss rfl rfl) ?_
        refine nil (test rfl hm2 ?_ ?_)
        ·intro hb28 hm2
         refine skip (seq (W.block ?_))
         refine seq ?_
         have hO := hO.pick [(0, .blk g1 [(.int .i64 p0.Epoch), (.slice A1_ p0.Holders.length c1_)] 31)] ⟨rfl, trivial⟩
         refine W.draw (SD w0 H0 [] H22 [(0, .blk g1 [(.int .i64 p0.Epoch), (.slice A1_ p0.Holders.length c1_)] 31)]) (fun i => ([] : List Nat).contains i) mixed 28 rfl _ rfl ?_
         intro w29 hh1 hh2 hh3 hh4; have hO := hO.same hh1 hh2 hh3 hh4; clear hh1 hh2 hh3 hh4
         have hS : SD w0 H0 [] H22 [(0, .blk g1 [(.int .i64 p0.Epoch), (.slice A1_ p0.Holders.length c1_)] 31)] w29 := ⟨_, _, Le.refl _, hO, ⟨rfl, trivial⟩⟩
         refine take (i := 0) rfl (by kernel_rfl) (fun w hS => x_move (.slice A16 (at0 p0.Holders v10).length c17) f4_2) hS ?_
         refine take (i := 1) rfl (by kernel_rfl) (fun w hS => x_move (.int .i64 v27) f5_2) hS ?_
         obtain ⟨hin33, hm2⟩ := chk hm2
         obtain ⟨a30, h31, hA32⟩ := RS.at_ (h18.up le23) hin33
         refine take (i := 2) rfl (by kernel_rfl) (fun w hS => x_ia (sA rfl hA32) rfl sle61 hin33) hS ?_
         refine take (i := 3) rfl (by kernel_rfl) (fun w hS => x_ldc rfl (h31.int _ hS.sub) one3) hS ?_
         refine take (i := 4) rfl (by kernel_rfl) (fun w hS => x_lss rfl rfl) hS ?_
         refine take (i := 5) rfl (by kernel_rfl) (fun w hS => x_move (.bool (decide ((at0 (at0 p0.Holders v10) v27) < 1))) rfl) hS ?_
         refine WA.gtake (i := 6) rfl rfl rfl (by kernel_rfl) (fun hb w hS => x_move (.slice A16 (at0 p0.Holders v10).length c17) f4_2) hS ?_
         refine WA.gtake (i := 7) rfl rfl rfl (by kernel_rfl) (fun hb w hS => x_move (.int .i64 v27) f5_2) hS ?_
         rcases btest hm2 with ⟨hb34, hm2⟩ | ⟨hb34, hm2⟩
         ·refine WA.takeN (i := 8) rfl rfl (kb rfl hb34) rfl (by kernel_rfl) hS ?_
          refine WA.takeN (i := 9) rfl rfl (kb rfl hb34) rfl (by kernel_rfl) hS ?_
          refine WA.takeN (i := 10) rfl rfl (kb rfl hb34) rfl (by kernel_rfl) hS ?_
          refine take (i := 11) rfl (by kernel_rfl) (fun w hS => x_pick_t (kb rfl hb34) (.bool true) rfl) hS ?_
          refine take (i := 12) rfl (by kernel_rfl) (fun w hS => x_move (.bool true) rfl) hS ?_
          refine WA.takeN (i := 13) rfl rfl rfl rfl (by kernel_rfl) hS ?_
          refine WA.takeN (i := 14) rfl rfl rfl rfl (by kernel_rfl) hS ?_
          refine WA.takeN (i := 15) rfl rfl rfl rfl (by kernel_rfl) hS ?_
          refine WA.takeU (i := 16) rfl rfl rfl (by kernel_rfl) hS ?_
          refine WA.takeU (i := 17) rfl rfl rfl (by kernel_rfl) hS ?_
          refine WA.takeU (i := 18) rfl rfl rfl (by kernel_rfl) hS ?_
          refine WA.takeU (i := 19) rfl rfl rfl (by kernel_rfl) hS ?_
          refine WA.takeU (i := 20) rfl rfl rfl (by kernel_rfl) hS ?_
          refine WA.takeU (i := 21) rfl rfl rfl (by kernel_rfl) hS ?_
          refine WA.takeU (i := 22) rfl rfl rfl (by kernel_rfl) hS ?_
          refine WA.takeU (i := 23) rfl rfl rfl (by kernel_rfl) hS ?_
          refine WA.takeU (i := 24) rfl rfl rfl (by kernel_rfl) hS ?_
          refine WA.takeU (i := 25) rfl rfl rfl (by kernel_rfl) hS ?_
          refine WA.takeN (i := 26) rfl rfl rfl rfl (by kernel_rfl) hS ?_
          refine take (i := 27) rfl (by kernel_rfl) (fun w hS => x_pick_t rfl (.bool true) rfl) hS ?_
          refine WA.done (by kernel_rfl) ?_
          refine W.cond_t rfl ?_
          refine seq (region (val (x_assign (.bool false) rfl) ?_))
          refine nil (W.ret ?_)
          obtain rfl := sj hm2
          dsimp only at hm1
          obtain rfl := sj hm1
          dsimp only at hm0
          obtain rfl := sj hm0
          exact ⟨H22, rfl, hO.done⟩
         ·obtain ⟨hin38, hm2⟩ := chk hm2
          obtain ⟨a35, h36, hA37⟩ := RS.at_ (h18.up le23) hin38
          refine WA.takeY (i := 8) rfl rfl (kb rfl hb34) (by kernel_rfl) (fun w hS => x_ia (sA (by exact gkF hb34) hA37) (by exact gkF hb34) sle61 hin38) hS ?_
          refine WA.takeY (i := 9) rfl rfl (kb rfl hb34) (by kernel_rfl) (fun w hS => x_ldc rfl (h36.int _ hS.sub) one3) hS ?_
          refine WA.takeY (i := 10) rfl rfl (kb rfl hb34) (by kernel_rfl) (fun w hS => x_gtr rfl rfl) hS ?_
          refine take (i := 11) rfl (by kernel_rfl) (fun w hS => x_pick_f (kb rfl hb34) (.bool (decide (4 < (at0 (at0 p0.Holders v10) v27)))) rfl) hS ?_
          refine take (i := 12) rfl (by kernel_rfl) (fun w hS => x_move (.bool (decide (4 < (at0 (at0 p0.Holders v10) v27)))) rfl) hS ?_
          refine WA.gtake (i := 13) rfl rfl rfl (by kernel_rfl) (fun hb w hS => x_move (.int .i64 v27) f5_2) hS ?_
          refine WA.gtake (i := 14) rfl rfl rfl (by kernel_rfl) (fun hb w hS => x_gtr (gv hb) rfl) hS ?_
          refine WA.gtake (i := 15) rfl rfl rfl (by kernel_rfl) (fun hb w hS => x_move (.bool (decide (0 < v27))) (gv hb)) hS ?_
          rcases btest hm2 with ⟨hb39, hm2⟩ | ⟨hb39, hm2⟩
          ·refine WA.takeU (i := 16) rfl rfl (by exact gnT hb39) (by kernel_rfl) hS ?_
           refine WA.takeU (i := 17) rfl rfl (by exact gnT hb39) (by kernel_rfl) hS ?_
           refine WA.takeU (i := 18) rfl rfl (by exact gnT hb39) (by kernel_rfl) hS ?_
           refine WA.takeU (i := 19) rfl rfl (by exact gnT hb39) (by kernel_rfl) hS ?_
           refine WA.takeU (i := 20) rfl rfl (by exact gnT hb39) (by kernel_rfl) hS ?_
           refine WA.takeU (i := 21) rfl rfl (by exact gnT hb39) (by kernel_rfl) hS ?_
           refine WA.takeU (i := 22) rfl rfl (by exact gnT hb39) (by kernel_rfl) hS ?_
           refine WA.takeU (i := 23) rfl rfl (by exact gnT hb39) (by kernel_rfl) hS ?_
           refine WA.takeU (i := 24) rfl rfl (by exact gnT hb39) (by kernel_rfl) hS ?_
           refine WA.takeU (i := 25) rfl rfl (by exact gnT hb39) (by kernel_rfl) hS ?_
           refine WA.takeN (i := 26) rfl rfl (kb rfl hb39) rfl (by kernel_rfl) hS ?_
           refine take (i := 27) rfl (by kernel_rfl) (fun w hS => x_pick_t (kb rfl hb39) (.bool true) rfl) hS ?_
           refine WA.done (by kernel_rfl) ?_
           refine W.cond_t rfl ?_
           refine seq (region (val (x_assign (.bool false) rfl) ?_))
           refine nil (W.ret ?_)
           obtain rfl := sj hm2
           dsimp only at hm1
           obtain rfl := sj hm1
           dsimp only at hm0
           obtain rfl := sj hm0
           exact ⟨H22, rfl, hO.done⟩
          ·refine WA.gtake (i := 16) rfl rfl (by exact gkF hb39) (by kernel_rfl) (fun hb w hS => x_move (.slice A16 (at0 p0.Holders v10).length c17) f4_2) hS ?_
           refine WA.gtake (i := 17) rfl rfl (by exact gkF hb39) (by kernel_rfl) (fun hb w hS => x_move (.int .i64 v27) f5_2) hS ?_
           rcases btest hm2 with ⟨hb40, hm2⟩ | ⟨hb40, hm2⟩
           ·obtain ⟨hin44, hm2⟩ := chk hm2
            obtain ⟨a41, h42, hA43⟩ := RS.at_ (h18.up le23) hin44
            refine WA.takeY (i := 18) rfl rfl (kb (by exact gkF hb39) hb40) (by kernel_rfl) (fun w hS => x_ia (sA (by exact gkT hb40) hA43) (by exact gkT hb40) sle61 hin44) hS ?_
            refine WA.takeY (i := 19) rfl rfl (kb (by exact gkF hb39) hb40) (by kernel_rfl) (fun w hS => x_ldc rfl (h42.int _ hS.sub) one3) hS ?_
            refine WA.takeY (i := 20) rfl rfl (kb (by exact gkF hb39) hb40) (by kernel_rfl) (fun w hS => x_move (.slice A16 (at0 p0.Holders v10).length c17) f4_2) hS ?_
            refine WA.takeY (i := 21) rfl rfl (kb (by exact gkF hb39) hb40) (by kernel_rfl) (fun w hS => x_move (.int .i64 v27) f5_2) hS ?_
            refine WA.takeY (i := 22) rfl rfl (kb (by exact gkF hb39) hb40) (by kernel_rfl) (fun w hS => x_sub rfl rfl) hS ?_
            obtain ⟨hin48, hm2⟩ := chk hm2
            obtain ⟨a45, h46, hA47⟩ := RS.at_ (h18.up le23) hin48
            refine WA.takeY (i := 23) rfl rfl (kb (by exact gkF hb39) hb40) (by kernel_rfl) (fun w hS => x_ia (sA rfl hA47) rfl sle61 hin48) hS ?_
            refine WA.takeY (i := 24) rfl rfl (kb (by exact gkF hb39) hb40) (by kernel_rfl) (fun w hS => x_ldc rfl (h46.int _ hS.sub) one3) hS ?_
            refine WA.takeY (i := 25) rfl rfl (kb (by exact gkF hb39) hb40) (by kernel_rfl) (fun w hS => x_leq rfl rfl) hS ?_
            refine WA.takeY (i := 26) rfl rfl (kb rfl hb39) (by kernel_rfl) (fun w hS => x_pick_t (kb (by exact gkF hb39) hb40) (.bool (decide ((at0 (at0 p0.Holders v10) v27) ≤ (at0 (at0 p0.Holders v10) (i64w (v27 - 1)))))) rfl) hS ?_
            refine take (i := 27) rfl (by kernel_rfl) (fun w hS => x_pick_f (kb rfl hb39) (.bool (decide ((at0 (at0 p0.Holders v10) v27) ≤ (at0 (at0 p0.Holders v10) (i64w (v27 - 1)))))) rfl) hS ?_
            refine WA.done (by kernel_rfl) ?_
            refine test rfl hm2 ?_ ?_
            ·intro hb49 hm2
             refine seq (region (val (x_assign (.bool false) rfl) ?_))
             refine nil (W.ret ?_)
             obtain rfl := sj hm2
             dsimp only at hm1
             obtain rfl := sj hm1
             dsimp only at hm0
             obtain rfl := sj hm0
             exact ⟨H22, rfl, hO.done⟩
            ·intro hb49 hm2
             refine skip (region (val (x_move (.int .i64 v27) f5_2) ?_))
             refine val (x_add rfl rfl) ?_
             refine val (x_assign (.int .i64 (i64w (v27 + 1))) rfl) ?_
             refine nil ?_
             exact ⟨_, Nat.lt_succ_self _, rest25, i64w (v27 + 1), H22, rfl, hm2, le23, hO.pick _ ⟨rfl, trivial⟩, f1_2, f3_2, f4_2, rfl⟩
           ·refine WA.takeN (i := 18) rfl rfl (kb (by exact gkF hb39) hb40) rfl (by kernel_rfl) hS ?_
            refine WA.takeN (i := 19) rfl rfl (kb (by exact gkF hb39) hb40) rfl (by kernel_rfl) hS ?_
            refine WA.takeN (i := 20) rfl rfl (kb (by exact gkF hb39) hb40) rfl (by kernel_rfl) hS ?_
            refine WA.takeN (i := 21) rfl rfl (kb (by exact gkF hb39) hb40) rfl (by kernel_rfl) hS ?_
            refine WA.takeN (i := 22) rfl rfl (kb (by exact gkF hb39) hb40) rfl (by kernel_rfl) hS ?_
            refine WA.takeN (i := 23) rfl rfl (kb (by exact gkF hb39) hb40) rfl (by kernel_rfl) hS ?_
            refine WA.takeN (i := 24) rfl rfl (kb (by exact gkF hb39) hb40) rfl (by kernel_rfl) hS ?_
            refine WA.takeN (i := 25) rfl rfl (kb (by exact gkF hb39) hb40) rfl (by kernel_rfl) hS ?_
            refine WA.takeY (i := 26) rfl rfl (kb rfl hb39) (by kernel_rfl) (fun w hS => x_pick_f (kb (by exact gkF hb39) hb40) (.bool false) rfl) hS ?_
            refine take (i := 27) rfl (by kernel_rfl) (fun w hS => x_pick_f (kb rfl hb39) (.bool false) rfl) hS ?_
            refine WA.done (by kernel_rfl) ?_
            refine W.cond_f rfl ?_
            refine skip (region (val (x_move (.int .i64 v27) f5_2) ?_))
            refine val (x_add rfl rfl) ?_
            refine val (x_assign (.int .i64 (i64w (v27 + 1))) rfl) ?_
            refine nil ?_
            exact ⟨_, Nat.lt_succ_self _, rest25, i64w (v27 + 1), H22, rfl, hm2, le23, hO.pick _ ⟨rfl, trivial⟩, f1_2, f3_2, f4_2, rfl⟩
        ·intro hb28 hm2
         refine W.exit _ rfl ?_
         obtain rfl := sj hm2
         exact ⟨v27, H22, rfl, le23, hO.pick _ ⟨rfl, trivial⟩, f1_2, f3_2⟩
      ·intro r w
       rintro ⟨v52, H50, rfl, le51, hO, f54, f55⟩
       dsimp only at hm1
       refine region (val (x_move (.int .i64 v10) f55) ?_)
       refine val (x_add rfl rfl) ?_
       refine val (x_assign (.int .i64 (i64w (v10 + 1))) rfl) ?_
       refine nil ?_
       exact ⟨_, Nat.lt_succ_self _, rest8, i64w (v10 + 1), H50, rfl, hm1, (le6.trans le51), hO.pick _ ⟨rfl, trivial⟩, f54, rfl⟩
    ·intro hb11 hm1
     refine W.exit _ rfl ?_
     obtain rfl := sj hm1
     exact ⟨v10, H5, rfl, le6, hO.pick _ ⟨rfl, trivial⟩⟩
  ·intro r w
   rintro ⟨v58, H56, rfl, le57, hO⟩
   dsimp only at hm0
   refine seq (region (val (x_assign (.bool true) rfl) ?_))
   refine nil (W.ret ?_)
   obtain rfl := sj hm0
   exact ⟨H56, rfl, hO.done⟩
theorem switchboardref19_May_ok {w0 : World} {H0 : IHeap} (hS : Sub H0 w0) {p0 : ApiModel} {p1 : PlaceMap} {p2 : List (List Int)}  {A1_ : Option Addr} {c1_ : Nat} {A2_ : Option Addr} {c2_ : Nat} {A3_ : Option Addr} {c3_ : Nat} (h1_ : RS eApiLayer H0 A1_ c1_ p0.Layers) (h2_ : RS (eSl (eInt .i64)) H0 A2_ c2_ p1.Holders) (h3_ : RS (eSl (eInt .i64)) H0 A3_ c3_ p2) {res : Bool} (hm0 : switchboardref19_May p0 p1 p2 = some res) :
  Ok prog 9 [(.agg #[(.int .i64 p0.Dim), (.slice A1_ p0.Layers.length c1_)]), (.agg #[(.int .i64 p1.Epoch), (.slice A2_ p1.Holders.length c2_)]), (.slice A3_ p2.length c3_)].toArray w0 H0 (fun H' v => v = (.bool res)) := by
 unfold switchboardref19_May at hm0
 refine ok_of_W Tryz.func9 rfl Tryz.ntmps9 (ts := [6]) rfl rfl rfl ?_
 have hO := St.start hS
 refine seq (region (o_box 0 [(.int .i64 p0.Dim), (.slice A1_ p0.Layers.length c1_)] hO rfl ?_))
 intro g1 w2 hO
 refine o_box 1 [(.int .i64 p1.Epoch), (.slice A2_ p1.Holders.length c2_)] hO rfl ?_
 intro g3 w4 hO
 refine val (x_assign (.bool false) rfl) ?_
 refine nil (seq (seq (region (val (x_lds 0 [(.int .i64 p0.Dim), (.slice A1_ p0.Layers.length c1_)] hO rfl rfl agg24 rfl rfl) ?_))))
 obtain ⟨t5, ht6, hm0⟩ := bindSome hm0
 refine o_call hO go30 (switchboardref15_Right_ok hO.sub h1_ ht6) rfl ?_
 rintro _ H7 w8 le9 rfl hO
 refine val (x_not rfl) ?_
 refine val (x_move (.bool (!t5)) rfl) ?_
 refine gval rfl rfl (fun hb => x_lds 0 [(.int .i64 p0.Dim), (.slice A1_ p0.Layers.length c1_)] hO rfl rfl agg24 rfl rfl) ?_
 refine gval rfl rfl (fun hb => x_move (.slice A3_ p2.length c3_) rfl) ?_
 rcases btest hm0 with ⟨hb10, hm0⟩ | ⟨hb10, hm0⟩
 ·refine no rfl (kb rfl hb10) rfl ?_
  refine no rfl (kb rfl hb10) rfl ?_
  refine val (x_pick_t (kb rfl hb10) (.bool true) rfl) ?_
  refine val (x_move (.bool true) rfl) ?_
  refine no rfl rfl rfl ?_
  refine no rfl rfl rfl ?_
  refine no rfl rfl rfl ?_
  refine val (x_pick_t rfl (.bool true) rfl) ?_
  refine nil (W.cond_t rfl ?_)
  refine seq (region (val (x_assign (.bool false) rfl) ?_))
  refine nil (W.ret ?_)
  obtain rfl := sj hm0
  exact ⟨H7, rfl, hO.done⟩
 ·refine yes rfl (kb rfl hb10) ?_
  obtain ⟨t11, ht12, hm0⟩ := bindSome hm0
  refine o_call hO go31 (switchboardref15_Tokens_ok hO.sub (h1_.up le9) (h3_.up le9) ht12) (args2 (by exact gkF hb10) (by exact gkF hb10)) ?_
  rintro _ H13 w14 le15 rfl hO
  refine yes rfl (kb rfl hb10) ?_
  refine val (x_not rfl) ?_
  refine val (x_pick_f (kb rfl hb10) (.bool (!t11)) rfl) ?_
  refine val (x_move (.bool (!t11)) rfl) ?_
  refine gval rfl rfl (fun hb => x_lds 1 [(.int .i64 p1.Epoch), (.slice A2_ p1.Holders.length c2_)] hO rfl rfl agg31 rfl rfl) ?_
  rcases btest hm0 with ⟨hb16, hm0⟩ | ⟨hb16, hm0⟩
  ·refine no rfl (kb rfl hb16) rfl ?_
   refine no rfl (kb rfl hb16) rfl ?_
   refine val (x_pick_t (kb rfl hb16) (.bool true) rfl) ?_
   refine nil (W.cond_t rfl ?_)
   refine seq (region (val (x_assign (.bool false) rfl) ?_))
   refine nil (W.ret ?_)
   obtain rfl := sj hm0
   exact ⟨H13, rfl, hO.done⟩
  ·refine yes rfl (kb rfl hb16) ?_
   obtain ⟨t17, ht18, hm0⟩ := bindSome hm0
   refine o_call hO go32 (switchboardref17_Right_ok hO.sub (h2_.up (le9.trans le15)) ht18) (args1 (by exact gkF hb16)) ?_
   rintro _ H19 w20 le21 rfl hO
   refine yes rfl (kb rfl hb16) ?_
   refine val (x_not rfl) ?_
   refine val (x_pick_f (kb rfl hb16) (.bool (!t17)) rfl) ?_
   refine nil (test rfl hm0 ?_ ?_)
   ·intro hb22 hm0
    refine seq (region (val (x_assign (.bool false) rfl) ?_))
    refine nil (W.ret ?_)
    obtain rfl := sj hm0
    exact ⟨H19, rfl, hO.done⟩
   ·intro hb22 hm0
    refine skip (seq (seq (region (val (x_fa rfl fo24_1) ?_))))
    refine val (x_ld 0 (.slice A1_ p0.Layers.length c1_) hO rfl rfl rfl one22) ?_
    refine val (x_len rfl underlying22) ?_
    refine val (x_move (.int .i64 0) rfl) ?_
    refine nil ?_
    obtain ⟨o23, hm1, hm0⟩ := bindSome hm0
    have hO := hO.pick [(1, .blk g3 [(.int .i64 p1.Epoch), (.slice A2_ p1.Holders.length c2_)] 31)] ⟨rfl, trivial⟩
    refine W.blockLoop (fun r w => ∃ (i26 : Nat) (H24 : IHeap), .out () = o23 ∧ Le H19 H24 ∧ St w0 H0 [] H24 (ol [(1, .blk g3 [(.int .i64 p1.Epoch), (.slice A2_ p1.Holders.length c2_)] 31)]) w) (fun k r w => ∃ (i26 : Nat) (rest27 : List ApiLayer) (H24 : IHeap), k = rest27.length ∧ List.drop i26 p0.Layers = rest27 ∧ switchboardref19_May_l1 p1 rest27 i26 = some o23 ∧ Le H19 H24 ∧ St w0 H0 [] H24 (ol [(1, .blk g3 [(.int .i64 p1.Epoch), (.slice A2_ p1.Holders.length c2_)] 31)]) w ∧ r 4 = (.pointer (some ⟨g3, 0, none⟩)) ∧ r 24 = (.slice A1_ p0.Layers.length c1_) ∧ r 25 = (.int .i64 (p0.Layers.length : Int)) ∧ r 26 = (.int .i64 (i26 : Int))) (List.length p0.Layers) ?_ ?_ ?_
    ·exact ⟨0, _, _, rfl, rfl, hm1, Le.refl _, hO, rfl, rfl, rfl, rfl⟩
    ·
     intro k r w
     rintro ⟨i26, rest27, H24, rfl, hd29, hm1, le25, hO, f4_1, f24_1, f25_1, f26_1⟩
     cases rest27 with
     | nil =>
      rw [switchboardref19_May_l1] at hm1
      have hlt := drop_nil hd29
      refine seq (region (val (x_lss f26_1 f25_1) ?_))
      refine nil (seq (W.cond_f (kb rfl hlt) ?_))
      refine W.exit _ rfl ?_
      obtain rfl := sj hm1
      exact ⟨i26, H24, rfl, le25, hO.pick _ ⟨rfl, trivial⟩⟩
     | cons x28 rest27 =>
      rw [switchboardref19_May_l1] at hm1
      have hlt := drop_lt hd29
      have hnx := drop_next hd29
      have hinc := inc_len hlt (h1_.up (le9.trans (le15.trans le21))).1 (h1_.up (le9.trans (le15.trans le21))).2.1
      refine seq (region (val (x_lss f26_1 f25_1) ?_))
      refine nil (seq (W.cond_t (kb rfl hlt) ?_))
      refine skip (seq (W.block ?_))
      refine seq (region ?_)
      obtain ⟨a30, h31, hA32, hin⟩ := RS.atR (h1_.up (le9.trans (le15.trans (le21.trans le25)))) hd29
      refine val (x_ia (sA f24_1 hA32) f26_1 sle22 hin) ?_
      obtain ⟨cs33, hr34, hc35⟩ := At.agg h31
      obtain ⟨A36, c37, A39, c40, rfl, h38, h41⟩ := hr34
      refine val (x_ldv rfl (hc35 _ _ _ hO.sub agg41)) ?_
      refine o_alloc 2 _ [(.slice none 0 0), (.slice none 0 0), (.int .i64 0)] zer41 hO rfl ?_
      intro g42 w43 hO
      refine o_sts 2 [(.slice A36 x28.Gate.length c37), (.slice A39 x28.Experts.length c40), (.int .i64 x28.Capacity)] hO rfl rfl rfl siz41 rfl (Nat.le_of_ble_eq_true rfl) (by simp [Value.oneCell', vs]) ?_
      intro w44 hO
      refine nil (seq (region (val (x_fa rfl fo41_1) ?_)))
      refine val (x_ld 2 (.slice A39 x28.Experts.length c40) hO rfl rfl rfl one39) ?_
      refine val (x_len rfl underlying39) ?_
      refine val (x_fa f4_1 fo31_1) ?_
      refine val (x_ld 1 (.slice A2_ p1.Holders.length c2_) hO rfl rfl rfl one25) ?_
      refine val (x_len rfl underlying25) ?_
      refine val (x_gtr rfl rfl) ?_
      refine nil (test rfl hm1 ?_ ?_)
      ·intro hb45 hm1
       refine seq (region (val (x_assign (.bool false) rfl) ?_))
       refine nil (W.ret ?_)
       obtain rfl := sj hm1
       dsimp only at hm0
       obtain rfl := sj hm0
       exact ⟨H24, rfl, hO.done⟩
      ·intro hb45 hm1
       refine skip (region (val (x_add f26_1 rfl) ?_))
       refine val (x_move (.int .i64 (i64w ((i26 : Int) + 1))) rfl) ?_
       refine nil ?_
       exact ⟨_, Nat.lt_succ_self _, i26 + 1, rest27, H24, rfl, hnx, hm1, le25, hO.pick _ ⟨rfl, trivial⟩, f4_1, f24_1, f25_1, (incv hinc)⟩
    ·intro r w
     rintro ⟨i48, H46, rfl, le47, hO⟩
     dsimp only at hm0
     refine seq (region (val (x_assign (.bool true) rfl) ?_))
     refine nil (W.ret ?_)
     obtain rfl := sj hm0
     exact ⟨H46, rfl, hO.done⟩
theorem fix_Hold_ok {w0 : World} {H0 : IHeap} (hS : Sub H0 w0) {p0 : Int}    {res : Int} (hm0 : fix_Hold p0 = some res) :
  Ok prog 79 [(.int .i64 p0)].toArray w0 H0 (fun H' v => v = (.int .i64 res)) := by
 unfold fix_Hold at hm0
 refine ok_of_W Tryz.func79 rfl Tryz.ntmps79 (ts := [2]) rfl rfl rfl ?_
 have hO := St.start hS
 refine seq (region (val (x_assign (.int .i64 0) rfl) ?_))
 refine nil (seq (region (val (x_move (.int .i64 p0) rfl) ?_)))
 refine val (x_min rfl rfl) ?_
 refine val (x_max rfl rfl) ?_
 refine val (x_assign (.int .i64 (iMax (-2147483647) (iMin 2147483647 p0))) rfl) ?_
 refine nil (W.ret ?_)
 obtain rfl := sj hm0
 exact ⟨H0, rfl, hO.done⟩
theorem mat_Right_1_1_ok {w0 : World} {H0 : IHeap} (hS : Sub H0 w0) {p0 : Int}    {res : Bool} (hm0 : mat_Right_1_1 p0 = some res) :
  Ok prog 139 [(.int .i64 p0)].toArray w0 H0 (fun H' v => v = (.bool res)) := by
 unfold mat_Right_1_1 at hm0
 refine ok_of_W Tryz.func139 rfl Tryz.ntmps139 (ts := [2]) rfl rfl rfl ?_
 have hO := St.start hS
 refine seq (region (val (x_assign (.bool false) rfl) ?_))
 refine nil (seq (region (val (x_move (.int .i64 p0) rfl) ?_)))
 obtain ⟨t1, ht2, hm0⟩ := bindSome hm0
 refine o_call hO go79 (fix_Hold_ok hO.sub  ht2) rfl ?_
 rintro _ H3 w4 le5 rfl hO
 refine val (x_move (.int .i64 p0) rfl) ?_
 refine val (x_neq rfl rfl) ?_
 refine val (x_assign (.bool (t1 != p0)) rfl) ?_
 refine nil (W.ret ?_)
 obtain rfl := sj hm0
 exact ⟨H3, rfl, hO.done⟩
theorem slices_IndexFunc_int_mat_Right_1_1_ok {w0 : World} {H0 : IHeap} (hS : Sub H0 w0) {p0 : List Int}  {A1_ : Option Addr} {c1_ : Nat} (h1_ : RS (eInt .i64) H0 A1_ c1_ p0) {res : Int} (hm0 : slices_IndexFunc_int_mat_Right_1_1 p0 = some res) :
  Ok prog 122 [(.slice A1_ p0.length c1_), (.func (.func 139) #[] #[])].toArray w0 H0 (fun H' v => v = (.int .i64 res)) := by
 unfold slices_IndexFunc_int_mat_Right_1_1 at hm0
 refine ok_of_W Tryz.func122 rfl Tryz.ntmps122 (ts := [4]) rfl rfl rfl ?_
 have hO := St.start hS
 refine seq (region (val (x_assign (.int .i64 0) rfl) ?_))
 refine nil (seq (seq (region (val (x_move (.slice A1_ p0.length c1_) rfl) ?_))))
 refine val (x_len rfl underlying61) ?_
 refine val (x_move (.int .i64 0) rfl) ?_
 refine nil ?_
 obtain ⟨o1, hm1, hm0⟩ := bindSome hm0
 have hO := hO.pick [] trivial
 refine W.blockLoop (fun r w => ∃ (i4 : Nat) (H2 : IHeap), .out () = o1 ∧ Le H0 H2 ∧ St w0 H0 [] H2 (ol []) w) (fun k r w => ∃ (i4 : Nat) (rest5 : List Int) (H2 : IHeap), k = rest5.length ∧ List.drop i4 p0 = rest5 ∧ slices_IndexFunc_int_mat_Right_1_1_l1 rest5 i4 = some o1 ∧ Le H0 H2 ∧ St w0 H0 [] H2 (ol []) w ∧ r 0 = (.slice A1_ p0.length c1_) ∧ r 1 = (.func (.func 139) #[] #[]) ∧ r 7 = (.int .i64 (p0.length : Int)) ∧ r 8 = (.int .i64 (i4 : Int))) (List.length p0) ?_ ?_ ?_
 ·exact ⟨0, _, _, rfl, rfl, hm1, Le.refl _, hO, rfl, rfl, rfl, rfl⟩
 ·
  intro k r w
  rintro ⟨i4, rest5, H2, rfl, hd7, hm1, le3, hO, f0_1, f1_1, f7_1, f8_1⟩
  cases rest5 with
  | nil =>
   rw [slices_IndexFunc_int_mat_Right_1_1_l1] at hm1
   have hlt := drop_nil hd7
   refine seq (region (val (x_lss f8_1 f7_1) ?_))
   refine nil (seq (W.cond_f (kb rfl hlt) ?_))
   refine W.exit _ rfl ?_
   obtain rfl := sj hm1
   exact ⟨i4, H2, rfl, le3, hO.pick _ trivial⟩
  | cons x6 rest5 =>
   rw [slices_IndexFunc_int_mat_Right_1_1_l1] at hm1
   have hlt := drop_lt hd7
   have hnx := drop_next hd7
   have hinc := inc_len hlt h1_.1 h1_.2.1
   refine seq (region (val (x_lss f8_1 f7_1) ?_))
   refine nil (seq (W.cond_t (kb rfl hlt) ?_))
   refine skip (seq (W.block ?_))
   refine seq (region (val (x_move (.int .i64 (i4 : Int)) f8_1) ?_))
   refine val (x_assign (.int .i64 (i4 : Int)) rfl) ?_
   refine nil (seq (region (val (x_move (.func (.func 139) #[] #[]) f1_1) ?_)))
   refine val (x_move (.slice A1_ p0.length c1_) f0_1) ?_
   refine val (x_move (.int .i64 (i4 : Int)) rfl) ?_
   obtain ⟨a8, h9, hA10, hin⟩ := RS.atR (h1_.up le3) hd7
   refine val (x_ia (sA rfl hA10) rfl sle61 hin) ?_
   refine val (x_ldc rfl (h9.int _ hO.sub) one3) ?_
   obtain ⟨t11, ht12, hm1⟩ := bindSome hm1
   refine o_callv (args := [(.int .i64 x6)]) (caps := []) hO rfl go139 (mat_Right_1_1_ok hO.sub  ht12) rfl ?_
   rintro _ H13 w14 le15 rfl hO
   refine nil (test rfl hm1 ?_ ?_)
   ·intro hb16 hm1
    refine seq (region (val (x_move (.int .i64 (i4 : Int)) rfl) ?_))
    refine val (x_assign (.int .i64 (i4 : Int)) rfl) ?_
    refine nil (W.ret ?_)
    obtain rfl := sj hm1
    dsimp only at hm0
    obtain rfl := sj hm0
    exact ⟨H13, rfl, hO.done⟩
   ·intro hb16 hm1
    refine skip (region (val (x_add f8_1 rfl) ?_))
    refine val (x_move (.int .i64 (i64w ((i4 : Int) + 1))) rfl) ?_
    refine nil ?_
    exact ⟨_, Nat.lt_succ_self _, i4 + 1, rest5, H13, rfl, hnx, hm1, (le3.trans le15), hO.pick _ trivial, f0_1, f1_1, f7_1, (incv hinc)⟩
 ·intro r w
  rintro ⟨i19, H17, rfl, le18, hO⟩
  dsimp only at hm0
  refine seq (region (val (x_assign (.int .i64 (-1)) rfl) ?_))
  refine nil (W.ret ?_)
  obtain rfl := sj hm0
  exact ⟨H17, rfl, hO.done⟩
theorem slices_ContainsFunc_int_mat_Right_1_1_ok {w0 : World} {H0 : IHeap} (hS : Sub H0 w0) {p0 : List Int}  {A1_ : Option Addr} {c1_ : Nat} (h1_ : RS (eInt .i64) H0 A1_ c1_ p0) {res : Bool} (hm0 : slices_ContainsFunc_int_mat_Right_1_1 p0 = some res) :
  Ok prog 77 [(.slice A1_ p0.length c1_), (.func (.func 139) #[] #[])].toArray w0 H0 (fun H' v => v = (.bool res)) := by
 unfold slices_ContainsFunc_int_mat_Right_1_1 at hm0
 refine ok_of_W Tryz.func77 rfl Tryz.ntmps77 (ts := [4]) rfl rfl rfl ?_
 have hO := St.start hS
 refine seq (region (val (x_assign (.bool false) rfl) ?_))
 refine nil (seq (region (val (x_move (.slice A1_ p0.length c1_) rfl) ?_)))
 refine val (x_move (.func (.func 139) #[] #[]) rfl) ?_
 obtain ⟨t1, ht2, hm0⟩ := bindSome hm0
 refine o_call hO go122 (slices_IndexFunc_int_mat_Right_1_1_ok hO.sub h1_ ht2) rfl ?_
 rintro _ H3 w4 le5 rfl hO
 refine val (x_geq rfl rfl) ?_
 refine val (x_assign (.bool (decide (0 ≤ t1))) rfl) ?_
 refine nil (W.ret ?_)
 obtain rfl := sj hm0
 exact ⟨H3, rfl, hO.done⟩
theorem mat_Right_1_ok {w0 : World} {H0 : IHeap} (hS : Sub H0 w0) {p0 : List Int} {q_0 : Int}  {A1_ : Option Addr} {c1_ : Nat} {a2_ : Addr} (h1_ : RS (eInt .i64) H0 A1_ c1_ p0) (h2_ : At (eInt .i64) H0 a2_ q_0) {res : Bool} (hm0 : mat_Right_1 p0 q_0 = some res) :
  Ok prog 138 [(.slice A1_ p0.length c1_), (.pointer (some a2_))].toArray w0 H0 (fun H' v => v = (.bool res)) := by
 unfold mat_Right_1 at hm0
 refine ok_of_W Tryz.func138 rfl Tryz.ntmps138 (ts := [3]) rfl rfl rfl ?_
 have hO := St.start hS
 refine seq (region (val (x_assign (.bool false) rfl) ?_))
 refine nil (seq (region (val (x_move (.slice A1_ p0.length c1_) rfl) ?_)))
 refine val (x_len rfl underlying61) ?_
 refine val (x_ldc rfl (h2_.int _ hO.sub) one3) ?_
 refine val (x_neq rfl rfl) ?_
 refine val (x_move (.bool ((p0.length : Int) != q_0)) rfl) ?_
 refine gval rfl rfl (fun hb => x_move (.slice A1_ p0.length c1_) rfl) ?_
 rcases btest hm0 with ⟨hb1, hm0⟩ | ⟨hb1, hm0⟩
 ·refine no rfl (kb rfl hb1) rfl ?_
  refine val (x_pick_t (kb rfl hb1) (.bool true) rfl) ?_
  refine val (x_assign (.bool true) rfl) ?_
  refine nil (W.ret ?_)
  obtain rfl := sj hm0
  exact ⟨H0, rfl, hO.done⟩
 ·refine yes rfl (kb rfl hb1) ?_
  obtain ⟨t2, ht3, hm0⟩ := bindSome hm0
  refine o_call hO go77 (slices_ContainsFunc_int_mat_Right_1_1_ok hO.sub h1_ ht3) (args2 (by exact gkF hb1) rfl) ?_
  rintro _ H4 w5 le6 rfl hO
  refine val (x_pick_f (kb rfl hb1) (.bool t2) rfl) ?_
  refine val (x_assign (.bool t2) rfl) ?_
  refine nil (W.ret ?_)
  obtain rfl := sj hm0
  exact ⟨H4, rfl, hO.done⟩
theorem slices_IndexFunc__int_mat_Right_1_ok {w0 : World} {H0 : IHeap} (hS : Sub H0 w0) {p0 : List (List Int)} {q1_0 : Int}  {A1_ : Option Addr} {c1_ : Nat} {a2_ : Addr} (h1_ : RS (eSl (eInt .i64)) H0 A1_ c1_ p0) (h2_ : At (eInt .i64) H0 a2_ q1_0) {res : Int} (hm0 : slices_IndexFunc__int_mat_Right_1 p0 q1_0 = some res) :
  Ok prog 121 [(.slice A1_ p0.length c1_), (.func (.func 138) #[] #[(.pointer (some a2_))])].toArray w0 H0 (fun H' v => v = (.int .i64 res)) := by
 unfold slices_IndexFunc__int_mat_Right_1 at hm0
 refine ok_of_W Tryz.func121 rfl Tryz.ntmps121 (ts := [4]) rfl rfl rfl ?_
 have hO := St.start hS
 refine seq (region (val (x_assign (.int .i64 0) rfl) ?_))
 refine nil (seq (seq (region (val (x_move (.slice A1_ p0.length c1_) rfl) ?_))))
 refine val (x_len rfl underlying25) ?_
 refine val (x_move (.int .i64 0) rfl) ?_
 refine nil ?_
 obtain ⟨o1, hm1, hm0⟩ := bindSome hm0
 have hO := hO.pick [] trivial
 refine W.blockLoop (fun r w => ∃ (i4 : Nat) (H2 : IHeap), .out () = o1 ∧ Le H0 H2 ∧ St w0 H0 [] H2 (ol []) w) (fun k r w => ∃ (i4 : Nat) (rest5 : List (List Int)) (H2 : IHeap), k = rest5.length ∧ List.drop i4 p0 = rest5 ∧ slices_IndexFunc__int_mat_Right_1_l1 q1_0 rest5 i4 = some o1 ∧ Le H0 H2 ∧ St w0 H0 [] H2 (ol []) w ∧ r 0 = (.slice A1_ p0.length c1_) ∧ r 1 = (.func (.func 138) #[] #[(.pointer (some a2_))]) ∧ r 7 = (.int .i64 (p0.length : Int)) ∧ r 8 = (.int .i64 (i4 : Int))) (List.length p0) ?_ ?_ ?_
 ·exact ⟨0, _, _, rfl, rfl, hm1, Le.refl _, hO, rfl, rfl, rfl, rfl⟩
 ·
  intro k r w
  rintro ⟨i4, rest5, H2, rfl, hd7, hm1, le3, hO, f0_1, f1_1, f7_1, f8_1⟩
  cases rest5 with
  | nil =>
   rw [slices_IndexFunc__int_mat_Right_1_l1] at hm1
   have hlt := drop_nil hd7
   refine seq (region (val (x_lss f8_1 f7_1) ?_))
   refine nil (seq (W.cond_f (kb rfl hlt) ?_))
   refine W.exit _ rfl ?_
   obtain rfl := sj hm1
   exact ⟨i4, H2, rfl, le3, hO.pick _ trivial⟩
  | cons x6 rest5 =>
   rw [slices_IndexFunc__int_mat_Right_1_l1] at hm1
   have hlt := drop_lt hd7
   have hnx := drop_next hd7
   have hinc := inc_len hlt h1_.1 h1_.2.1
   refine seq (region (val (x_lss f8_1 f7_1) ?_))
   refine nil (seq (W.cond_t (kb rfl hlt) ?_))
   refine skip (seq (W.block ?_))
   refine seq (region (val (x_move (.int .i64 (i4 : Int)) f8_1) ?_))
   refine val (x_assign (.int .i64 (i4 : Int)) rfl) ?_
   refine nil (seq (region (val (x_move (.func (.func 138) #[] #[(.pointer (some a2_))]) f1_1) ?_)))
   refine val (x_move (.slice A1_ p0.length c1_) f0_1) ?_
   refine val (x_move (.int .i64 (i4 : Int)) rfl) ?_
   obtain ⟨a8, h9, hA10, hin⟩ := RS.atR (h1_.up le3) hd7
   refine val (x_ia (sA rfl hA10) rfl sle25 hin) ?_
   obtain ⟨A11, c12, h13, hc14⟩ := At.sl h9
   refine val (x_ldc rfl (hc14 _ hO.sub) one61) ?_
   obtain ⟨t15, ht16, hm1⟩ := bindSome hm1
   refine o_callv (args := [(.slice A11 x6.length c12)]) (caps := [(.pointer (some a2_))]) hO rfl go138 (mat_Right_1_ok hO.sub h13 (h2_.up le3) ht16) rfl ?_
   rintro _ H17 w18 le19 rfl hO
   refine nil (test rfl hm1 ?_ ?_)
   ·intro hb20 hm1
    refine seq (region (val (x_move (.int .i64 (i4 : Int)) rfl) ?_))
    refine val (x_assign (.int .i64 (i4 : Int)) rfl) ?_
    refine nil (W.ret ?_)
    obtain rfl := sj hm1
    dsimp only at hm0
    obtain rfl := sj hm0
    exact ⟨H17, rfl, hO.done⟩
   ·intro hb20 hm1
    refine skip (region (val (x_add f8_1 rfl) ?_))
    refine val (x_move (.int .i64 (i64w ((i4 : Int) + 1))) rfl) ?_
    refine nil ?_
    exact ⟨_, Nat.lt_succ_self _, i4 + 1, rest5, H17, rfl, hnx, hm1, (le3.trans le19), hO.pick _ trivial, f0_1, f1_1, f7_1, (incv hinc)⟩
 ·intro r w
  rintro ⟨i23, H21, rfl, le22, hO⟩
  dsimp only at hm0
  refine seq (region (val (x_assign (.int .i64 (-1)) rfl) ?_))
  refine nil (W.ret ?_)
  obtain rfl := sj hm0
  exact ⟨H21, rfl, hO.done⟩
end Go.Sw

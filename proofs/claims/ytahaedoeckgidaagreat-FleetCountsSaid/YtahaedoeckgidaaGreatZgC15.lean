/- The calls compute the mirrors. -/
import Derived.Test.YtahaedoeckgidaaGreatZgF
import Derived.Test.YtahaedoeckgidaaGreatZgC12
import Derived.Test.YtahaedoeckgidaaGreatZgC13
import Derived.Test.YtahaedoeckgidaaGreatZgC14
set_option linter.unusedVariables false
set_option linter.unusedSimpArgs false
set_option maxRecDepth 100000
namespace Go.Sw
open WL (val nil gval yes no)
open W (region test seq skip)
open WA (take)
open Go.Proofs.Tryz
open Go.Proofs
theorem switchboardref02_Scale_ok {w0 : World} {H0 : IHeap} (hS : Sub H0 w0) {p0 : List Int} {p1 : Int}  {A1_ : Option Addr} {c1_ : Nat} (h1_ : RS (eInt .i64) H0 A1_ c1_ p0) {res : (List Int)} (hm0 : switchboardref02_Scale p0 p1 = some res) :
  Ok prog 45 [(.slice A1_ p0.length c1_), (.int .i64 p1)].toArray w0 H0 (fun H' v => ∃ (A1 : Option Addr) (c1 : Nat), v = (.slice A1 res.length c1) ∧ RS (eInt .i64) H' A1 c1 res) := by
 unfold switchboardref02_Scale at hm0
 refine ok_of_W Tryz.func45 rfl Tryz.ntmps45 (ts := [4]) rfl rfl rfl ?_
 have hO := St.start hS
 refine seq (region (val (x_assign (.slice none 0 0) rfl) ?_))
 refine nil (seq (region (val (x_assign (.slice none 0 0) rfl) ?_)))
 refine nil (seq (seq (region (val (x_assign (.int .i64 0) rfl) ?_))))
 refine nil ?_
 have hO := hO.nilRowT (α := Int) 0 none 3 (eInt .i64)
 obtain ⟨o1, hm1, hm0⟩ := bindSome hm0
 have hO := hO.pick [(0, .row none 0 3 (eInt .i64).size ([] : List Int).length [])] ⟨rfl, trivial⟩
 refine W.blockLoop (fun r w => ∃ (v7 : List Int) (A8 : Option Addr) (c9 : Nat) (cs10 : List Value) (v12 : Int) (H2 : IHeap), (v7, v12) = o1 ∧ Le H0 H2 ∧ St w0 H0 [] H2 (ol [(0, .row A8 c9 3 (eInt .i64).size v7.length cs10)]) w ∧ r 5 = (.slice A8 v7.length c9) ∧ Rows (eInt .i64) H2 cs10 v7) (fun k r w => ∃ (rest5 : Nat) (v7 : List Int) (A8 : Option Addr) (c9 : Nat) (cs10 : List Value) (v12 : Int) (H2 : IHeap), rest5 = k ∧ switchboardref02_Scale_l1 p0 p1 rest5 v7 v12 = some o1 ∧ Le H0 H2 ∧ St w0 H0 [] H2 (ol [(0, .row A8 c9 3 (eInt .i64).size v7.length cs10)]) w ∧ r 0 = (.slice A1_ p0.length c1_) ∧ r 1 = (.int .i64 p1) ∧ r 5 = (.slice A8 v7.length c9) ∧ r 6 = (.int .i64 v12) ∧ Rows (eInt .i64) H2 cs10 v7) FUEL ?_ ?_ ?_
 ·exact ⟨_, ([] : List Int), none, 0, [], 0, _, rfl, hm1, Le.refl _, hO, rfl, rfl, rfl, rfl, Rows.nil⟩
 ·
  intro k r w
  rintro ⟨rest5, v7, A8, c9, cs10, v12, H2, rfl, hm1, le3, hO, f0_1, f1_1, f5_1, f6_1, h11⟩
  cases rest5 with
  | zero => rw [switchboardref02_Scale_l1] at hm1; cases hm1
  | succ rest5 =>
   rw [switchboardref02_Scale_l1] at hm1
   refine seq (seq (region (val (x_move (.int .i64 v12) f6_1) ?_)))
   refine val (x_move (.slice A1_ p0.length c1_) f0_1) ?_
   refine val (x_len rfl underlying61) ?_
   refine val (x_lss rfl rfl) ?_
   refine nil (test rfl hm1 ?_ ?_)
   ·intro hb13 hm1
    refine skip (seq (W.block ?_))
    refine region (val (x_move (.slice A8 v7.length c9) f5_1) ?_)
    refine val (x_move (.slice A1_ p0.length c1_) f0_1) ?_
    refine val (x_move (.int .i64 v12) f6_1) ?_
    obtain ⟨hin17, hm1⟩ := chk hm1
    obtain ⟨a14, h15, hA16⟩ := RS.at_ (h1_.up le3) hin17
    refine val (x_ia (sA rfl hA16) rfl sle61 hin17) ?_
    refine val (x_ldc rfl (h15.int _ hO.sub) one3) ?_
    refine val (x_move (.int .i64 p1) f1_1) ?_
    obtain ⟨t18, ht19, hm1⟩ := bindSome hm1
    refine o_call hO go89 (switchboardref01_Mul_ok hO.sub  ht19) rfl ?_
    rintro _ H20 w21 le22 rfl hO
    refine o_litT (en := (eInt .i64)) 1 [(.int .i64 t18)] ([t18] : List Int) hO sli61 ⟨rfl, trivial⟩ rfl rfl rfl ?_
    intro g23 cs24 w25 hr26 hO
    refine o_appT (en := (eInt .i64)) (xs := v7) (ys := ([t18] : List Int)) 0 hO rfl (h11.up le22) rfl rfl (Src.row (k := 1) hO rfl) hr26 sli61 rfl rfl underlying61 hm1 ?_
    intro A27 c28 cs29 w30 hr31 hO hm1
    refine val (x_assign (.slice A27 (v7 ++ ([t18] : List Int)).length c28) rfl) ?_
    refine nil (region (val (x_move (.int .i64 v12) f6_1) ?_))
    refine val (x_add rfl rfl) ?_
    refine val (x_assign (.int .i64 (i64w (v12 + 1))) rfl) ?_
    refine nil ?_
    exact ⟨_, Nat.lt_succ_self _, rest5, (v7 ++ ([t18] : List Int)), A27, c28, cs29, i64w (v12 + 1), H20, rfl, hm1, (le3.trans le22), hO.pick _ ⟨rfl, trivial⟩, f0_1, f1_1, rfl, rfl, hr31⟩
   ·intro hb13 hm1
    refine W.exit _ rfl ?_
    obtain rfl := sj hm1
    exact ⟨v7, A8, c9, cs10, v12, H2, rfl, le3, hO.pick _ ⟨rfl, trivial⟩, f5_1, h11⟩
 ·intro r w
  rintro ⟨v34, A35, c36, cs38, v39, H32, rfl, le33, hO, f41, h37⟩
  dsimp only at hm0
  refine seq (region (val (x_move (.slice A35 v34.length c36) f41) ?_))
  refine val (x_assign (.slice A35 v34.length c36) rfl) ?_
  refine nil (W.ret ?_)
  obtain ⟨H42, le43, h44, hO⟩ := hO.freezeRow (en := (eInt .i64)) 0 rfl rfl rfl h37
  obtain rfl := sj hm0
  exact ⟨H42, ⟨A35, c36, rfl, h44⟩, hO.done⟩
theorem switchboardref02_Relu_ok {w0 : World} {H0 : IHeap} (hS : Sub H0 w0) {p0 : List Int}  {A1_ : Option Addr} {c1_ : Nat} (h1_ : RS (eInt .i64) H0 A1_ c1_ p0) {res : (List Int)} (hm0 : switchboardref02_Relu p0 = some res) :
  Ok prog 90 [(.slice A1_ p0.length c1_)].toArray w0 H0 (fun H' v => ∃ (A1 : Option Addr) (c1 : Nat), v = (.slice A1 res.length c1) ∧ RS (eInt .i64) H' A1 c1 res) := by
 unfold switchboardref02_Relu at hm0
 refine ok_of_W Tryz.func90 rfl Tryz.ntmps90 (ts := [2]) rfl rfl rfl ?_
 have hO := St.start hS
 refine seq (region (val (x_assign (.slice none 0 0) rfl) ?_))
 refine nil (seq (region (val (x_assign (.slice none 0 0) rfl) ?_)))
 refine nil (seq (seq (region (val (x_assign (.int .i64 0) rfl) ?_))))
 refine nil ?_
 have hO := hO.nilRowT (α := Int) 0 none 3 (eInt .i64)
 obtain ⟨o1, hm1, hm0⟩ := bindSome hm0
 have hO := hO.pick [(0, .row none 0 3 (eInt .i64).size ([] : List Int).length [])] ⟨rfl, trivial⟩
 refine W.blockLoop (fun r w => ∃ (v7 : List Int) (A8 : Option Addr) (c9 : Nat) (cs10 : List Value) (v12 : Int) (H2 : IHeap), (v7, v12) = o1 ∧ Le H0 H2 ∧ St w0 H0 [] H2 (ol [(0, .row A8 c9 3 (eInt .i64).size v7.length cs10)]) w ∧ r 3 = (.slice A8 v7.length c9) ∧ Rows (eInt .i64) H2 cs10 v7) (fun k r w => ∃ (rest5 : Nat) (v7 : List Int) (A8 : Option Addr) (c9 : Nat) (cs10 : List Value) (v12 : Int) (H2 : IHeap), rest5 = k ∧ switchboardref02_Relu_l1 p0 rest5 v7 v12 = some o1 ∧ Le H0 H2 ∧ St w0 H0 [] H2 (ol [(0, .row A8 c9 3 (eInt .i64).size v7.length cs10)]) w ∧ r 0 = (.slice A1_ p0.length c1_) ∧ r 3 = (.slice A8 v7.length c9) ∧ r 4 = (.int .i64 v12) ∧ Rows (eInt .i64) H2 cs10 v7) FUEL ?_ ?_ ?_
 ·exact ⟨_, ([] : List Int), none, 0, [], 0, _, rfl, hm1, Le.refl _, hO, rfl, rfl, rfl, Rows.nil⟩
 ·
  intro k r w
  rintro ⟨rest5, v7, A8, c9, cs10, v12, H2, rfl, hm1, le3, hO, f0_1, f3_1, f4_1, h11⟩
  cases rest5 with
  | zero => rw [switchboardref02_Relu_l1] at hm1; cases hm1
  | succ rest5 =>
   rw [switchboardref02_Relu_l1] at hm1
   refine seq (seq (region (val (x_move (.int .i64 v12) f4_1) ?_)))
   refine val (x_move (.slice A1_ p0.length c1_) f0_1) ?_
   refine val (x_len rfl underlying61) ?_
   refine val (x_lss rfl rfl) ?_
   refine nil (test rfl hm1 ?_ ?_)
   ·intro hb13 hm1
    refine skip (seq (W.block ?_))
    refine seq (region (val (x_move (.slice A1_ p0.length c1_) f0_1) ?_))
    refine val (x_move (.int .i64 v12) f4_1) ?_
    obtain ⟨hin17, hm1⟩ := chk hm1
    obtain ⟨a14, h15, hA16⟩ := RS.at_ (h1_.up le3) hin17
    refine val (x_ia (sA rfl hA16) rfl sle61 hin17) ?_
    refine val (x_ldc rfl (h15.int _ hO.sub) one3) ?_
    obtain ⟨t18, ht19, hm1⟩ := bindSome hm1
    refine o_call hO go88 (switchboardref01_Hold_ok hO.sub  ht19) rfl ?_
    rintro _ H20 w21 le22 rfl hO
    refine val (x_assign (.int .i64 t18) rfl) ?_
    refine nil (seq (seq (region (val (x_move (.int .i64 t18) rfl) ?_))))
    refine val (x_lss rfl rfl) ?_
    refine nil (test rfl hm1 ?_ ?_)
    ·intro hb23 hm1
     refine region (val (x_assign (.int .i64 0) rfl) ?_)
     refine nil (region (val (x_move (.slice A8 v7.length c9) f3_1) ?_))
     refine val (x_move (.int .i64 0) rfl) ?_
     refine o_litT (en := (eInt .i64)) 1 [(.int .i64 0)] ([0] : List Int) hO sli61 ⟨rfl, trivial⟩ rfl rfl rfl ?_
     intro g24 cs25 w26 hr27 hO
     refine o_appT (en := (eInt .i64)) (xs := v7) (ys := ([0] : List Int)) 0 hO rfl (h11.up le22) rfl rfl (Src.row (k := 1) hO rfl) hr27 sli61 rfl rfl underlying61 hm1 ?_
     intro A28 c29 cs30 w31 hr32 hO hm1
     refine val (x_assign (.slice A28 (v7 ++ ([0] : List Int)).length c29) rfl) ?_
     refine nil (region (val (x_move (.int .i64 v12) f4_1) ?_))
     refine val (x_add rfl rfl) ?_
     refine val (x_assign (.int .i64 (i64w (v12 + 1))) rfl) ?_
     refine nil ?_
     exact ⟨_, Nat.lt_succ_self _, rest5, (v7 ++ ([0] : List Int)), A28, c29, cs30, i64w (v12 + 1), H20, rfl, hm1, (le3.trans le22), hO.pick _ ⟨rfl, trivial⟩, f0_1, rfl, rfl, hr32⟩
    ·intro hb23 hm1
     refine skip (region (val (x_move (.slice A8 v7.length c9) f3_1) ?_))
     refine val (x_move (.int .i64 t18) rfl) ?_
     refine o_litT (en := (eInt .i64)) 2 [(.int .i64 t18)] ([t18] : List Int) hO sli61 ⟨rfl, trivial⟩ rfl rfl rfl ?_
     intro g33 cs34 w35 hr36 hO
     refine o_appT (en := (eInt .i64)) (xs := v7) (ys := ([t18] : List Int)) 0 hO rfl (h11.up le22) rfl rfl (Src.row (k := 2) hO rfl) hr36 sli61 rfl rfl underlying61 hm1 ?_
     intro A37 c38 cs39 w40 hr41 hO hm1
     refine val (x_assign (.slice A37 (v7 ++ ([t18] : List Int)).length c38) rfl) ?_
     refine nil (region (val (x_move (.int .i64 v12) f4_1) ?_))
     refine val (x_add rfl rfl) ?_
     refine val (x_assign (.int .i64 (i64w (v12 + 1))) rfl) ?_
     refine nil ?_
     exact ⟨_, Nat.lt_succ_self _, rest5, (v7 ++ ([t18] : List Int)), A37, c38, cs39, i64w (v12 + 1), H20, rfl, hm1, (le3.trans le22), hO.pick _ ⟨rfl, trivial⟩, f0_1, rfl, rfl, hr41⟩
   ·intro hb13 hm1
    refine W.exit _ rfl ?_
    obtain rfl := sj hm1
    exact ⟨v7, A8, c9, cs10, v12, H2, rfl, le3, hO.pick _ ⟨rfl, trivial⟩, f3_1, h11⟩
 ·intro r w
  rintro ⟨v44, A45, c46, cs48, v49, H42, rfl, le43, hO, f51, h47⟩
  dsimp only at hm0
  refine seq (region (val (x_move (.slice A45 v44.length c46) f51) ?_))
  refine val (x_assign (.slice A45 v44.length c46) rfl) ?_
  refine nil (W.ret ?_)
  obtain ⟨H52, le53, h54, hO⟩ := hO.freezeRow (en := (eInt .i64)) 0 rfl rfl rfl h47
  obtain rfl := sj hm0
  exact ⟨H52, ⟨A45, c46, rfl, h54⟩, hO.done⟩
theorem switchboardref11_Run_ok {w0 : World} {H0 : IHeap} (hS : Sub H0 w0) {p0 : ApiExpert} {p1 : List Int}  {A1_ : Option Addr} {c1_ : Nat} {A2_ : Option Addr} {c2_ : Nat} {A3_ : Option Addr} {c3_ : Nat} (h1_ : RS (eSl (eInt .i64)) H0 A1_ c1_ p0.In) (h2_ : RS (eSl (eInt .i64)) H0 A2_ c2_ p0.Out) (h3_ : RS (eInt .i64) H0 A3_ c3_ p1) {res : (List Int)} (hm0 : switchboardref11_Run p0 p1 = some res) :
  Ok prog 46 [(.agg #[(.slice A1_ p0.In.length c1_), (.slice A2_ p0.Out.length c2_)]), (.slice A3_ p1.length c3_)].toArray w0 H0 (fun H' v => ∃ (A1 : Option Addr) (c1 : Nat), v = (.slice A1 res.length c1) ∧ RS (eInt .i64) H' A1 c1 res) := by
 unfold switchboardref11_Run at hm0
 refine ok_of_W Tryz.func46 rfl Tryz.ntmps46 (ts := [4]) rfl rfl rfl ?_
 have hO := St.start hS
 refine seq (region (o_box 0 [(.slice A1_ p0.In.length c1_), (.slice A2_ p0.Out.length c2_)] hO rfl ?_))
 intro g1 w2 hO
 refine val (x_assign (.slice none 0 0) rfl) ?_
 refine nil (seq (region (val (x_fa rfl fo50_0) ?_)))
 refine val (x_ld 0 (.slice A1_ p0.In.length c1_) hO rfl rfl rfl one25) ?_
 refine val (x_move (.slice A3_ p1.length c3_) rfl) ?_
 obtain ⟨t3, ht4, hm0⟩ := bindSome hm0
 refine o_call hO go84 (switchboardref03_Apply_ok hO.sub h1_ h3_ ht4) rfl ?_
 rintro _ H5 w6 le7 ⟨A8, c9, rfl, h10⟩ hO
 refine val (x_move (.tuple #[(.slice A8 t3.1.length c9), (.bool t3.2)]) rfl) ?_
 refine val (x_extract (.slice A8 t3.1.length c9) rfl rfl) ?_
 refine val (x_extract (.bool t3.2) rfl rfl) ?_
 refine val (x_assign (.slice A8 t3.1.length c9) rfl) ?_
 refine val (x_assign (.bool t3.2) rfl) ?_
 refine nil (seq ?_)
 have hO := hO.pick [(0, .blk g1 [(.slice A1_ p0.In.length c1_), (.slice A2_ p0.Out.length c2_)] 50)] ⟨rfl, trivial⟩
 refine W.draw (SD w0 H0 [] H5 [(0, .blk g1 [(.slice A1_ p0.In.length c1_), (.slice A2_ p0.Out.length c2_)] 50)]) (fun i => ([] : List Nat).contains i) mixed 10 rfl _ rfl ?_
 intro w11 hh1 hh2 hh3 hh4; have hO := hO.same hh1 hh2 hh3 hh4; clear hh1 hh2 hh3 hh4
 have hS : SD w0 H0 [] H5 [(0, .blk g1 [(.slice A1_ p0.In.length c1_), (.slice A2_ p0.Out.length c2_)] 50)] w11 := ⟨_, _, Le.refl _, hO, ⟨rfl, trivial⟩⟩
 refine take (i := 0) rfl (by kernel_rfl) (fun w hS => x_fa rfl fo50_1) hS ?_
 refine take (i := 1) rfl (by kernel_rfl) (fun w hS => x_ldD 0 (.slice A2_ p0.Out.length c2_) hS rfl rfl rfl one25) hS ?_
 refine take (i := 2) rfl (by kernel_rfl) (fun w hS => x_move (.slice A8 t3.1.length c9) rfl) hS ?_
 refine WA.only (i := 3) (by kernel_rfl) rfl ?_
 obtain ⟨t12, ht13, hm0⟩ := bindSome hm0
 refine o_call hO go90 (switchboardref02_Relu_ok hO.sub h10 ht13) rfl ?_
 rintro _ H14 w15 le16 ⟨A17, c18, rfl, h19⟩ hO
 have hS : SD w0 H0 [] H5 [(0, .blk g1 [(.slice A1_ p0.In.length c1_), (.slice A2_ p0.Out.length c2_)] 50)] _ := ⟨_, _, le16, hO, ⟨rfl, trivial⟩⟩
 refine nil ⟨fun _ => hS, ?_⟩
 refine WA.only (i := 4) (by kernel_rfl) rfl ?_
 obtain ⟨t20, ht21, hm0⟩ := bindSome hm0
 refine o_call hO go84 (switchboardref03_Apply_ok hO.sub (h2_.up (le7.trans le16)) h19 ht21) rfl ?_
 rintro _ H22 w23 le24 ⟨A25, c26, rfl, h27⟩ hO
 have hS : SD w0 H0 [] H5 [(0, .blk g1 [(.slice A1_ p0.In.length c1_), (.slice A2_ p0.Out.length c2_)] 50)] _ := ⟨_, _, (le16.trans le24), hO, ⟨rfl, trivial⟩⟩
 refine nil ⟨fun _ => hS, ?_⟩
 refine take (i := 5) rfl (by kernel_rfl) (fun w hS => x_move (.tuple #[(.slice A25 t20.1.length c26), (.bool t20.2)]) rfl) hS ?_
 refine take (i := 6) rfl (by kernel_rfl) (fun w hS => x_extract (.slice A25 t20.1.length c26) rfl rfl) hS ?_
 refine take (i := 7) rfl (by kernel_rfl) (fun w hS => x_extract (.bool t20.2) rfl rfl) hS ?_
 refine take (i := 8) rfl (by kernel_rfl) (fun w hS => x_assign (.slice A25 t20.1.length c26) rfl) hS ?_
 refine take (i := 9) rfl (by kernel_rfl) (fun w hS => x_assign (.bool t20.2) rfl) hS ?_
 refine WA.done (by kernel_rfl) ?_
 refine seq (region (val (x_move (.slice A25 t20.1.length c26) rfl) ?_))
 refine val (x_assign (.slice A25 t20.1.length c26) rfl) ?_
 refine nil (W.ret ?_)
 obtain rfl := sj hm0
 exact ⟨H22, ⟨A25, c26, rfl, h27⟩, hO.done⟩
theorem switchboardref15_Forward_ok {w0 : World} {H0 : IHeap} (hS : Sub H0 w0) {p0 : ApiModel} {p1 : List (List Int)}  {A1_ : Option Addr} {c1_ : Nat} {A2_ : Option Addr} {c2_ : Nat} (h1_ : RS eApiLayer H0 A1_ c1_ p0.Layers) (h2_ : RS (eSl (eInt .i64)) H0 A2_ c2_ p1) {res : (List (List Int))} (hm0 : switchboardref15_Forward p0 p1 = some res) :
  Ok prog 13 [(.agg #[(.int .i64 p0.Dim), (.slice A1_ p0.Layers.length c1_)]), (.slice A2_ p1.length c2_)].toArray w0 H0 (fun H' v => ∃ (A1 : Option Addr) (c1 : Nat), v = (.slice A1 res.length c1) ∧ RS (eSl (eInt .i64)) H' A1 c1 res) := by
 unfold switchboardref15_Forward at hm0
 refine ok_of_W Tryz.func13 rfl Tryz.ntmps13 (ts := [4]) rfl rfl rfl ?_
 have hO := St.start hS
 refine seq (region (o_box 0 [(.int .i64 p0.Dim), (.slice A1_ p0.Layers.length c1_)] hO rfl ?_))
 intro g1 w2 hO
 refine val (x_assign (.slice none 0 0) rfl) ?_
 refine nil (seq (seq (region (val (x_fa rfl fo24_1) ?_))))
 refine val (x_ld 0 (.slice A1_ p0.Layers.length c1_) hO rfl rfl rfl one22) ?_
 refine val (x_len rfl underlying22) ?_
 refine val (x_move (.int .i64 0) rfl) ?_
 refine nil ?_
 obtain ⟨o3, hm1, hm0⟩ := bindSome hm0
 have hO := hO.pick [] trivial
 refine W.blockLoop (fun r w => ∃ (v9 : List (List Int)) (A10 : Option Addr) (c11 : Nat) (i6 : Nat) (H4 : IHeap), v9 = o3 ∧ Le H0 H4 ∧ St w0 H0 [] H4 (ol []) w ∧ r 1 = (.slice A10 v9.length c11) ∧ RS (eSl (eInt .i64)) H4 A10 c11 v9) (fun k r w => ∃ (i6 : Nat) (rest7 : List ApiLayer) (v9 : List (List Int)) (A10 : Option Addr) (c11 : Nat) (H4 : IHeap), k = rest7.length ∧ List.drop i6 p0.Layers = rest7 ∧ switchboardref15_Forward_l1 rest7 i6 v9 = some o3 ∧ Le H0 H4 ∧ St w0 H0 [] H4 (ol []) w ∧ r 1 = (.slice A10 v9.length c11) ∧ r 14 = (.slice A1_ p0.Layers.length c1_) ∧ r 15 = (.int .i64 (p0.Layers.length : Int)) ∧ r 16 = (.int .i64 (i6 : Int)) ∧ RS (eSl (eInt .i64)) H4 A10 c11 v9) (List.length p0.Layers) ?_ ?_ ?_
 ·exact ⟨0, _, p1, A2_, c2_, _, rfl, rfl, hm1, Le.refl _, hO, rfl, rfl, rfl, rfl, h2_⟩
 ·
  intro k r w
  rintro ⟨i6, rest7, v9, A10, c11, H4, rfl, hd13, hm1, le5, hO, f1_1, f14_1, f15_1, f16_1, h12⟩
  cases rest7 with
  | nil =>
   rw [switchboardref15_Forward_l1] at hm1
   have hlt := drop_nil hd13
   refine seq (region (val (x_lss f16_1 f15_1) ?_))
   refine nil (seq (W.cond_f (kb rfl hlt) ?_))
   refine W.exit _ rfl ?_
   obtain rfl := sj hm1
   exact ⟨v9, A10, c11, i6, H4, rfl, le5, hO.pick _ trivial, f1_1, h12⟩
  | cons x8 rest7 =>
   rw [switchboardref15_Forward_l1] at hm1
   have hlt := drop_lt hd13
   have hnx := drop_next hd13
   have hinc := inc_len hlt h1_.1 h1_.2.1
   refine seq (region (val (x_lss f16_1 f15_1) ?_))
   refine nil (seq (W.cond_t (kb rfl hlt) ?_))
   refine skip (seq (W.block ?_))
   refine seq (region ?_)
   obtain ⟨a14, h15, hA16, hin⟩ := RS.atR (h1_.up le5) hd13
   refine val (x_ia (sA f14_1 hA16) f16_1 sle22 hin) ?_
   obtain ⟨cs17, hr18, hc19⟩ := At.agg h15
   obtain ⟨A20, c21, A23, c24, rfl, h22, h25⟩ := hr18
   refine val (x_ldv rfl (hc19 _ _ _ hO.sub agg41)) ?_
   refine o_alloc 1 _ [(.slice none 0 0), (.slice none 0 0), (.int .i64 0)] zer41 hO rfl ?_
   intro g26 w27 hO
   refine o_sts 1 [(.slice A20 x8.Gate.length c21), (.slice A23 x8.Experts.length c24), (.int .i64 x8.Capacity)] hO rfl rfl rfl siz41 rfl (Nat.le_of_ble_eq_true rfl) (by simp [Value.oneCell', vs]) ?_
   intro w28 hO
   refine nil (seq (region (val (x_lds 1 [(.slice A20 x8.Gate.length c21), (.slice A23 x8.Experts.length c24), (.int .i64 x8.Capacity)] hO rfl rfl agg41 rfl rfl) ?_)))
   refine val (x_move (.slice A10 v9.length c11) f1_1) ?_
   obtain ⟨t29, ht30, hm1⟩ := bindSome hm1
   refine o_call hO go12 (switchboardref15_Parts_ok hO.sub h22 h25 h12 ht30) rfl ?_
   rintro _ H31 w32 le33 ⟨A34, c35, rfl, h36⟩ hO
   refine val (x_assign (.slice A34 t29.length c35) rfl) ?_
   refine nil (seq (region (val (x_assign (.slice none 0 0) rfl) ?_)))
   refine nil (seq (seq (region (val (x_assign (.int .i64 0) rfl) ?_))))
   refine nil ?_
   have hO := hO.nilRowT (α := List Int) 2 none 61 (eSl (eInt .i64))
   obtain ⟨o37, hm2, hm1⟩ := bindSome hm1
   have hO := hO.pick [(1, .blk g26 [(.slice A20 x8.Gate.length c21), (.slice A23 x8.Experts.length c24), (.int .i64 x8.Capacity)] 41), (2, .row none 0 61 (eSl (eInt .i64)).size ([] : List (List Int)).length [])] ⟨rfl, rfl, trivial⟩
   refine W.blockLoop (fun r w => ∃ (v43 : List (List Int)) (A44 : Option Addr) (c45 : Nat) (cs46 : List Value) (v48 : Int) (H38 : IHeap), (v43, v48) = o37 ∧ Le H31 H38 ∧ St w0 H0 [] H38 (ol [(1, .blk g26 [(.slice A20 x8.Gate.length c21), (.slice A23 x8.Experts.length c24), (.int .i64 x8.Capacity)] 41), (2, .row A44 c45 61 (eSl (eInt .i64)).size v43.length cs46)]) w ∧ r 8 = (.slice A44 v43.length c45) ∧ r 14 = (.slice A1_ p0.Layers.length c1_) ∧ r 15 = (.int .i64 (p0.Layers.length : Int)) ∧ r 16 = (.int .i64 (i6 : Int)) ∧ Rows (eSl (eInt .i64)) H38 cs46 v43) (fun k r w => ∃ (rest41 : Nat) (v43 : List (List Int)) (A44 : Option Addr) (c45 : Nat) (cs46 : List Value) (v48 : Int) (H38 : IHeap), rest41 = k ∧ switchboardref15_Forward_l2 v9 x8 t29 rest41 v43 v48 = some o37 ∧ Le H31 H38 ∧ St w0 H0 [] H38 (ol [(1, .blk g26 [(.slice A20 x8.Gate.length c21), (.slice A23 x8.Experts.length c24), (.int .i64 x8.Capacity)] 41), (2, .row A44 c45 61 (eSl (eInt .i64)).size v43.length cs46)]) w ∧ r 1 = (.slice A10 v9.length c11) ∧ r 6 = (.pointer (some ⟨g26, 0, none⟩)) ∧ r 7 = (.slice A34 t29.length c35) ∧ r 8 = (.slice A44 v43.length c45) ∧ r 9 = (.int .i64 v48) ∧ r 14 = (.slice A1_ p0.Layers.length c1_) ∧ r 15 = (.int .i64 (p0.Layers.length : Int)) ∧ r 16 = (.int .i64 (i6 : Int)) ∧ Rows (eSl (eInt .i64)) H38 cs46 v43) FUEL ?_ ?_ ?_
   ·exact ⟨_, ([] : List (List Int)), none, 0, [], 0, _, rfl, hm2, Le.refl _, hO, f1_1, rfl, rfl, rfl, rfl, f14_1, f15_1, f16_1, Rows.nil⟩
   ·
    intro k r w
    rintro ⟨rest41, v43, A44, c45, cs46, v48, H38, rfl, hm2, le39, hO, f1_2, f6_2, f7_2, f8_2, f9_2, f14_2, f15_2, f16_2, h47⟩
    cases rest41 with
    | zero => rw [switchboardref15_Forward_l2] at hm2; cases hm2
    | succ rest41 =>
     rw [switchboardref15_Forward_l2] at hm2
     refine seq (seq (region (val (x_move (.int .i64 v48) f9_2) ?_)))
     refine val (x_move (.slice A10 v9.length c11) f1_2) ?_
     refine val (x_len rfl underlying25) ?_
     refine val (x_lss rfl rfl) ?_
     refine nil (test rfl hm2 ?_ ?_)
     ·intro hb49 hm2
      refine skip (seq (W.block ?_))
      refine seq (region (val (x_move (.slice A10 v9.length c11) f1_2) ?_))
      refine val (x_move (.int .i64 v48) f9_2) ?_
      obtain ⟨hin53, hm2⟩ := chk hm2
      obtain ⟨a50, h51, hA52⟩ := RS.at_ (h12.up (le33.trans le39)) hin53
      refine val (x_ia (sA rfl hA52) rfl sle25 hin53) ?_
      obtain ⟨A54, c55, h56, hc57⟩ := At.sl h51
      refine val (x_ldc rfl (hc57 _ hO.sub) one61) ?_
      refine val (x_assign (.slice A54 (at0 v9 v48).length c55) rfl) ?_
      refine nil (seq (seq (region (val (x_move (.slice A34 t29.length c35) f7_2) ?_))))
      refine val (x_len rfl underlying37) ?_
      refine val (x_move (.int .i64 0) rfl) ?_
      refine nil ?_
      obtain ⟨o58, hm3, hm2⟩ := bindSome hm2
      have hO := hO.pick [(1, .blk g26 [(.slice A20 x8.Gate.length c21), (.slice A23 x8.Experts.length c24), (.int .i64 x8.Capacity)] 41), (2, .row A44 c45 61 (eSl (eInt .i64)).size v43.length cs46)] ⟨rfl, rfl, trivial⟩
      refine W.blockLoop (fun r w => ∃ (v64 : List Int) (A65 : Option Addr) (c66 : Nat) (i61 : Nat) (H59 : IHeap), v64 = o58 ∧ Le H38 H59 ∧ St w0 H0 [] H59 (ol [(1, .blk g26 [(.slice A20 x8.Gate.length c21), (.slice A23 x8.Experts.length c24), (.int .i64 x8.Capacity)] 41), (2, .row A44 c45 61 (eSl (eInt .i64)).size v43.length cs46)]) w ∧ r 1 = (.slice A10 v9.length c11) ∧ r 6 = (.pointer (some ⟨g26, 0, none⟩)) ∧ r 7 = (.slice A34 t29.length c35) ∧ r 8 = (.slice A44 v43.length c45) ∧ r 9 = (.int .i64 v48) ∧ r 10 = (.slice A65 v64.length c66) ∧ r 14 = (.slice A1_ p0.Layers.length c1_) ∧ r 15 = (.int .i64 (p0.Layers.length : Int)) ∧ r 16 = (.int .i64 (i6 : Int)) ∧ RS (eInt .i64) H59 A65 c66 v64) (fun k r w => ∃ (i61 : Nat) (rest62 : List ModelPart) (v64 : List Int) (A65 : Option Addr) (c66 : Nat) (H59 : IHeap), k = rest62.length ∧ List.drop i61 t29 = rest62 ∧ switchboardref15_Forward_l3 v9 x8 v48 rest62 i61 v64 = some o58 ∧ Le H38 H59 ∧ St w0 H0 [] H59 (ol [(1, .blk g26 [(.slice A20 x8.Gate.length c21), (.slice A23 x8.Experts.length c24), (.int .i64 x8.Capacity)] 41), (2, .row A44 c45 61 (eSl (eInt .i64)).size v43.length cs46)]) w ∧ r 1 = (.slice A10 v9.length c11) ∧ r 6 = (.pointer (some ⟨g26, 0, none⟩)) ∧ r 7 = (.slice A34 t29.length c35) ∧ r 8 = (.slice A44 v43.length c45) ∧ r 9 = (.int .i64 v48) ∧ r 10 = (.slice A65 v64.length c66) ∧ r 14 = (.slice A1_ p0.Layers.length c1_) ∧ r 15 = (.int .i64 (p0.Layers.length : Int)) ∧ r 16 = (.int .i64 (i6 : Int)) ∧ r 33 = (.slice A34 t29.length c35) ∧ r 34 = (.int .i64 (t29.length : Int)) ∧ r 35 = (.int .i64 (i61 : Int)) ∧ RS (eInt .i64) H59 A65 c66 v64) (List.length t29) ?_ ?_ ?_
      ·exact ⟨0, _, (at0 v9 v48), A54, c55, _, rfl, rfl, hm3, Le.refl _, hO, f1_2, f6_2, f7_2, f8_2, f9_2, rfl, f14_2, f15_2, f16_2, rfl, rfl, rfl, h56⟩
      ·
       intro k r w
       rintro ⟨i61, rest62, v64, A65, c66, H59, rfl, hd68, hm3, le60, hO, f1_3, f6_3, f7_3, f8_3, f9_3, f10_3, f14_3, f15_3, f16_3, f33_3, f34_3, f35_3, h67⟩
       cases rest62 with
       | nil =>
        rw [switchboardref15_Forward_l3] at hm3
        have hlt := drop_nil hd68
        refine seq (region (val (x_lss f35_3 f34_3) ?_))
        refine nil (seq (W.cond_f (kb rfl hlt) ?_))
        refine W.exit _ rfl ?_
        obtain rfl := sj hm3
        exact ⟨v64, A65, c66, i61, H59, rfl, le60, hO.pick _ ⟨rfl, rfl, trivial⟩, f1_3, f6_3, f7_3, f8_3, f9_3, f10_3, f14_3, f15_3, f16_3, h67⟩
       | cons x63 rest62 =>
        rw [switchboardref15_Forward_l3] at hm3
        have hlt := drop_lt hd68
        have hnx := drop_next hd68
        have hinc := inc_len hlt (h36.up le39).1 (h36.up le39).2.1
        refine seq (region (val (x_lss f35_3 f34_3) ?_))
        refine nil (seq (W.cond_t (kb rfl hlt) ?_))
        refine skip (seq (W.block ?_))
        refine seq (region ?_)
        obtain ⟨a69, h70, hA71, hin⟩ := RS.atR (h36.up (le39.trans le60)) hd68
        refine val (x_ia (sA f33_3 hA71) f35_3 sle37 hin) ?_
        obtain ⟨cs72, hr73, hc74⟩ := At.agg h70
        obtain rfl := hr73
        refine val (x_ldv rfl (hc74 _ _ _ hO.sub agg102)) ?_
        refine o_alloc 3 _ [(.int .i64 0), (.int .i64 0), (.int .i64 0), (.int .i64 0)] zer102 hO rfl ?_
        intro g75 w76 hO
        refine o_sts 3 [(.int .i64 x63.Token), (.int .i64 x63.Rank), (.int .i64 x63.Expert), (.int .i64 x63.Weight)] hO rfl rfl rfl siz102 rfl (Nat.le_of_ble_eq_true rfl) (by simp [Value.oneCell', vs]) ?_
        intro w77 hO
        refine nil (seq (region (val (x_fa rfl fo102_0) ?_)))
        refine val (x_ld 3 (.int .i64 x63.Token) hO rfl rfl rfl one3) ?_
        refine val (x_move (.int .i64 v48) f9_3) ?_
        refine val (x_eql rfl rfl) ?_
        refine nil (test rfl hm3 ?_ ?_)
        ·intro hb78 hm3
         have hO := hO.pick [(1, .blk g26 [(.slice A20 x8.Gate.length c21), (.slice A23 x8.Experts.length c24), (.int .i64 x8.Capacity)] 41), (3, .blk g75 [(.int .i64 x63.Token), (.int .i64 x63.Rank), (.int .i64 x63.Expert), (.int .i64 x63.Weight)] 102), (2, .row A44 c45 61 (eSl (eInt .i64)).size v43.length cs46)] ⟨rfl, rfl, rfl, trivial⟩
         refine W.draw (SD w0 H0 [] H59 [(1, .blk g26 [(.slice A20 x8.Gate.length c21), (.slice A23 x8.Experts.length c24), (.int .i64 x8.Capacity)] 41), (3, .blk g75 [(.int .i64 x63.Token), (.int .i64 x63.Rank), (.int .i64 x63.Expert), (.int .i64 x63.Weight)] 102)]) (fun i => ([] : List Nat).contains i) mixed 17 rfl _ rfl ?_
         intro w79 hh1 hh2 hh3 hh4; have hO := hO.same hh1 hh2 hh3 hh4; clear hh1 hh2 hh3 hh4
         have hS : SD w0 H0 [] H59 [(1, .blk g26 [(.slice A20 x8.Gate.length c21), (.slice A23 x8.Experts.length c24), (.int .i64 x8.Capacity)] 41), (3, .blk g75 [(.int .i64 x63.Token), (.int .i64 x63.Rank), (.int .i64 x63.Expert), (.int .i64 x63.Weight)] 102)] w79 := ⟨_, _, Le.refl _, hO, ⟨rfl, rfl, trivial⟩⟩
         refine take (i := 0) rfl (by kernel_rfl) (fun w hS => x_move (.slice A65 v64.length c66) f10_3) hS ?_
         refine take (i := 1) rfl (by kernel_rfl) (fun w hS => x_fa f6_3 fo41_1) hS ?_
         refine take (i := 2) rfl (by kernel_rfl) (fun w hS => x_ldD 1 (.slice A23 x8.Experts.length c24) hS rfl rfl rfl one39) hS ?_
         refine take (i := 3) rfl (by kernel_rfl) (fun w hS => x_fa rfl fo102_2) hS ?_
         refine take (i := 4) rfl (by kernel_rfl) (fun w hS => x_ldD 3 (.int .i64 x63.Expert) hS rfl rfl rfl one3) hS ?_
         obtain ⟨hin83, hm3⟩ := chk hm3
         obtain ⟨a80, h81, hA82⟩ := RS.at_ (h25.up (le33.trans (le39.trans le60))) hin83
         refine take (i := 5) rfl (by kernel_rfl) (fun w hS => x_ia (sA rfl hA82) rfl sle39 hin83) hS ?_
         obtain ⟨cs84, hr85, hc86⟩ := At.agg h81
         obtain ⟨A87, c88, A90, c91, rfl, h89, h92⟩ := hr85
         refine take (i := 6) rfl (by kernel_rfl) (fun w hS => x_ldv rfl (hc86 _ _ _ hS.sub agg50)) hS ?_
         refine take (i := 7) rfl (by kernel_rfl) (fun w hS => x_move (.slice A10 v9.length c11) f1_3) hS ?_
         refine take (i := 8) rfl (by kernel_rfl) (fun w hS => x_move (.int .i64 v48) f9_3) hS ?_
         obtain ⟨hin96, hm3⟩ := chk hm3
         obtain ⟨a93, h94, hA95⟩ := RS.at_ (h12.up (le33.trans (le39.trans le60))) hin96
         refine take (i := 9) rfl (by kernel_rfl) (fun w hS => x_ia (sA rfl hA95) rfl sle25 hin96) hS ?_
         obtain ⟨A97, c98, h99, hc100⟩ := At.sl h94
         refine take (i := 10) rfl (by kernel_rfl) (fun w hS => x_ldc rfl (hc100 _ hS.sub) one61) hS ?_
         refine take (i := 12) rfl (by kernel_rfl) (fun w hS => x_fa rfl fo102_3) hS ?_
         refine take (i := 13) rfl (by kernel_rfl) (fun w hS => x_ldD 3 (.int .i64 x63.Weight) hS rfl rfl rfl one3) hS ?_
         refine WA.only (i := 11) (by kernel_rfl) rfl ?_
         obtain ⟨t101, ht102, hm3⟩ := bindSome hm3
         refine o_call hO go46 (switchboardref11_Run_ok hO.sub h89 h92 h99 ht102) rfl ?_
         rintro _ H103 w104 le105 ⟨A106, c107, rfl, h108⟩ hO
         have hS : SD w0 H0 [] H59 [(1, .blk g26 [(.slice A20 x8.Gate.length c21), (.slice A23 x8.Experts.length c24), (.int .i64 x8.Capacity)] 41), (3, .blk g75 [(.int .i64 x63.Token), (.int .i64 x63.Rank), (.int .i64 x63.Expert), (.int .i64 x63.Weight)] 102)] _ := ⟨_, _, le105, hO, ⟨rfl, rfl, trivial⟩⟩
         refine nil ⟨fun _ => hS, ?_⟩
         refine WA.only (i := 14) (by kernel_rfl) rfl ?_
         obtain ⟨t109, ht110, hm3⟩ := bindSome hm3
         refine o_call hO go45 (switchboardref02_Scale_ok hO.sub h108 ht110) rfl ?_
         rintro _ H111 w112 le113 ⟨A114, c115, rfl, h116⟩ hO
         have hS : SD w0 H0 [] H59 [(1, .blk g26 [(.slice A20 x8.Gate.length c21), (.slice A23 x8.Experts.length c24), (.int .i64 x8.Capacity)] 41), (3, .blk g75 [(.int .i64 x63.Token), (.int .i64 x63.Rank), (.int .i64 x63.Expert), (.int .i64 x63.Weight)] 102)] _ := ⟨_, _, (le105.trans le113), hO, ⟨rfl, rfl, trivial⟩⟩
         refine nil ⟨fun _ => hS, ?_⟩
         refine WA.only (i := 15) (by kernel_rfl) rfl ?_
         obtain ⟨t117, ht118, hm3⟩ := bindSome hm3
         refine o_call hO go44 (switchboardref02_Add_ok hO.sub (h67.up (le105.trans le113)) h116 ht118) rfl ?_
         rintro _ H119 w120 le121 ⟨A122, c123, rfl, h124⟩ hO
         have hS : SD w0 H0 [] H59 [(1, .blk g26 [(.slice A20 x8.Gate.length c21), (.slice A23 x8.Experts.length c24), (.int .i64 x8.Capacity)] 41), (3, .blk g75 [(.int .i64 x63.Token), (.int .i64 x63.Rank), (.int .i64 x63.Expert), (.int .i64 x63.Weight)] 102)] _ := ⟨_, _, (le105.trans (le113.trans le121)), hO, ⟨rfl, rfl, trivial⟩⟩
         refine nil ⟨fun _ => hS, ?_⟩
         refine take (i := 16) rfl (by kernel_rfl) (fun w hS => x_assign (.slice A122 t117.length c123) rfl) hS ?_
         refine WA.done (by kernel_rfl) ?_
         refine region (val (x_add f35_3 rfl) ?_)
         refine val (x_move (.int .i64 (i64w ((i61 : Int) + 1))) rfl) ?_
         refine nil ?_
         exact ⟨_, Nat.lt_succ_self _, i61 + 1, rest62, t117, A122, c123, H119, rfl, hnx, hm3, (le60.trans (le105.trans (le113.trans le121))), hO.pick _ ⟨rfl, rfl, trivial⟩, f1_3, f6_3, f7_3, f8_3, f9_3, rfl, f14_3, f15_3, f16_3, f33_3, f34_3, (incv hinc), h124⟩
        ·intro hb78 hm3
         refine skip (region (val (x_add f35_3 rfl) ?_))
         refine val (x_move (.int .i64 (i64w ((i61 : Int) + 1))) rfl) ?_
         refine nil ?_
         exact ⟨_, Nat.lt_succ_self _, i61 + 1, rest62, v64, A65, c66, H59, rfl, hnx, hm3, le60, hO.pick _ ⟨rfl, rfl, trivial⟩, f1_3, f6_3, f7_3, f8_3, f9_3, f10_3, f14_3, f15_3, f16_3, f33_3, f34_3, (incv hinc), h67⟩
      ·intro r w
       rintro ⟨v127, A128, c129, i131, H125, rfl, le126, hO, f132, f133, f134, f135, f136, f137, f138, f139, f140, h130⟩
       refine region (val (x_move (.slice A44 v43.length c45) f135) ?_)
       refine val (x_move (.slice A128 v127.length c129) f137) ?_
       refine o_litT (en := (eSl (eInt .i64))) 4 [(.slice A128 v127.length c129)] ([v127] : List (List Int)) hO sli25 ⟨⟨A128, c129, rfl, h130⟩, trivial⟩ rfl rfl rfl ?_
       intro g141 cs142 w143 hr144 hO
       refine o_appT (en := (eSl (eInt .i64))) (xs := v43) (ys := ([v127] : List (List Int))) 2 hO rfl (h47.up le126) rfl rfl (Src.row (k := 4) hO rfl) hr144 sli25 rfl rfl underlying25 hm2 ?_
       intro A145 c146 cs147 w148 hr149 hO hm2
       refine val (x_assign (.slice A145 (v43 ++ ([v127] : List (List Int))).length c146) rfl) ?_
       refine nil (region (val (x_move (.int .i64 v48) f136) ?_))
       refine val (x_add rfl rfl) ?_
       refine val (x_assign (.int .i64 (i64w (v48 + 1))) rfl) ?_
       refine nil ?_
       exact ⟨_, Nat.lt_succ_self _, rest41, (v43 ++ ([v127] : List (List Int))), A145, c146, cs147, i64w (v48 + 1), H125, rfl, hm2, (le39.trans le126), hO.pick _ ⟨rfl, rfl, trivial⟩, f132, f133, f134, rfl, rfl, f138, f139, f140, hr149⟩
     ·intro hb49 hm2
      refine W.exit _ rfl ?_
      obtain rfl := sj hm2
      exact ⟨v43, A44, c45, cs46, v48, H38, rfl, le39, hO.pick _ ⟨rfl, rfl, trivial⟩, f8_2, f14_2, f15_2, f16_2, h47⟩
   ·intro r w
    rintro ⟨v152, A153, c154, cs156, v157, H150, rfl, le151, hO, f159, f160, f161, f162, h155⟩
    dsimp only at hm1
    refine region (val (x_move (.slice A153 v152.length c154) f159) ?_)
    refine val (x_assign (.slice A153 v152.length c154) rfl) ?_
    refine nil (region (val (x_add f162 rfl) ?_))
    refine val (x_move (.int .i64 (i64w ((i6 : Int) + 1))) rfl) ?_
    refine nil ?_
    obtain ⟨H163, le164, h165, hO⟩ := hO.freezeRow (en := (eSl (eInt .i64))) 2 rfl rfl rfl h155
    exact ⟨_, Nat.lt_succ_self _, i6 + 1, rest7, v152, A153, c154, H163, rfl, hnx, hm1, (le5.trans (le33.trans (le151.trans le164))), hO.pick _ trivial, rfl, f160, f161, (incv hinc), h165⟩
 ·intro r w
  rintro ⟨v168, A169, c170, i172, H166, rfl, le167, hO, f173, h171⟩
  refine seq (region (val (x_move (.slice A169 v168.length c170) f173) ?_))
  refine val (x_assign (.slice A169 v168.length c170) rfl) ?_
  refine nil (W.ret ?_)
  obtain rfl := sj hm0
  exact ⟨H166, ⟨A169, c170, rfl, h171⟩, hO.done⟩
theorem switchboardref02_Same_ok {w0 : World} {H0 : IHeap} (hS : Sub H0 w0) {p0 : List Int} {p1 : List Int}  {A1_ : Option Addr} {c1_ : Nat} {A2_ : Option Addr} {c2_ : Nat} (h1_ : RS (eInt .i64) H0 A1_ c1_ p0) (h2_ : RS (eInt .i64) H0 A2_ c2_ p1) {res : Bool} (hm0 : switchboardref02_Same p0 p1 = some res) :
  Ok prog 52 [(.slice A1_ p0.length c1_), (.slice A2_ p1.length c2_)].toArray w0 H0 (fun H' v => v = (.bool res)) := by
 unfold switchboardref02_Same at hm0
 refine ok_of_W Tryz.func52 rfl Tryz.ntmps52 (ts := [4]) rfl rfl rfl ?_
 have hO := St.start hS
 refine seq (region (val (x_assign (.bool false) rfl) ?_))
 refine nil (seq (seq (region (val (x_move (.slice A1_ p0.length c1_) rfl) ?_))))
 refine val (x_len rfl underlying61) ?_
 refine val (x_move (.slice A2_ p1.length c2_) rfl) ?_
 refine val (x_len rfl underlying61) ?_
 refine val (x_neq rfl rfl) ?_
 refine nil (test rfl hm0 ?_ ?_)
 ·intro hb1 hm0
  refine seq (region (val (x_assign (.bool false) rfl) ?_))
  refine nil (W.ret ?_)
  obtain rfl := sj hm0
  exact ⟨H0, rfl, hO.done⟩
 ·intro hb1 hm0
  refine skip (seq (seq (region (val (x_assign (.int .i64 0) rfl) ?_))))
  refine nil ?_
  obtain ⟨o2, hm1, hm0⟩ := bindSome hm0
  have hO := hO.pick [] trivial
  refine W.blockLoop (fun r w => ∃ (v8 : Int) (H3 : IHeap), .out v8 = o2 ∧ Le H0 H3 ∧ St w0 H0 [] H3 (ol []) w) (fun k r w => ∃ (rest6 : Nat) (v8 : Int) (H3 : IHeap), rest6 = k ∧ switchboardref02_Same_l1 p0 p1 rest6 v8 = some o2 ∧ Le H0 H3 ∧ St w0 H0 [] H3 (ol []) w ∧ r 0 = (.slice A1_ p0.length c1_) ∧ r 1 = (.slice A2_ p1.length c2_) ∧ r 5 = (.int .i64 v8)) FUEL ?_ ?_ ?_
  ·exact ⟨_, 0, _, rfl, hm1, Le.refl _, hO, rfl, rfl, rfl⟩
  ·
   intro k r w
   rintro ⟨rest6, v8, H3, rfl, hm1, le4, hO, f0_1, f1_1, f5_1⟩
   cases rest6 with
   | zero => rw [switchboardref02_Same_l1] at hm1; cases hm1
   | succ rest6 =>
    rw [switchboardref02_Same_l1] at hm1
    refine seq (seq (region (val (x_move (.int .i64 v8) f5_1) ?_)))
    refine val (x_move (.slice A1_ p0.length c1_) f0_1) ?_
    refine val (x_len rfl underlying61) ?_
    refine val (x_lss rfl rfl) ?_
    refine nil (test rfl hm1 ?_ ?_)
    ·intro hb9 hm1
     refine skip (seq (W.block ?_))
     refine seq ?_
     have hO := hO.pick [] trivial
     refine W.draw (SD w0 H0 [] H3 []) (fun i => ([] : List Nat).contains i) mixed 9 rfl _ rfl ?_
     intro w10 hh1 hh2 hh3 hh4; have hO := hO.same hh1 hh2 hh3 hh4; clear hh1 hh2 hh3 hh4
     have hS : SD w0 H0 [] H3 [] w10 := ⟨_, _, Le.refl _, hO, trivial⟩
     refine take (i := 0) rfl (by kernel_rfl) (fun w hS => x_move (.slice A1_ p0.length c1_) f0_1) hS ?_
     refine take (i := 1) rfl (by kernel_rfl) (fun w hS => x_move (.int .i64 v8) f5_1) hS ?_
     obtain ⟨hin14, hm1⟩ := chk hm1
     obtain ⟨a11, h12, hA13⟩ := RS.at_ (h1_.up le4) hin14
     refine take (i := 2) rfl (by kernel_rfl) (fun w hS => x_ia (sA rfl hA13) rfl sle61 hin14) hS ?_
     refine take (i := 3) rfl (by kernel_rfl) (fun w hS => x_ldc rfl (h12.int _ hS.sub) one3) hS ?_
     refine take (i := 4) rfl (by kernel_rfl) (fun w hS => x_move (.slice A2_ p1.length c2_) f1_1) hS ?_
     refine take (i := 5) rfl (by kernel_rfl) (fun w hS => x_move (.int .i64 v8) f5_1) hS ?_
     obtain ⟨hin18, hm1⟩ := chk hm1
     obtain ⟨a15, h16, hA17⟩ := RS.at_ (h2_.up le4) hin18
     refine take (i := 6) rfl (by kernel_rfl) (fun w hS => x_ia (sA rfl hA17) rfl sle61 hin18) hS ?_
     refine take (i := 7) rfl (by kernel_rfl) (fun w hS => x_ldc rfl (h16.int _ hS.sub) one3) hS ?_
     refine take (i := 8) rfl (by kernel_rfl) (fun w hS => x_neq rfl rfl) hS ?_
     refine WA.done (by kernel_rfl) ?_
     refine test rfl hm1 ?_ ?_
     ·intro hb19 hm1
      refine seq (region (val (x_assign (.bool false) rfl) ?_))
      refine nil (W.ret ?_)
      obtain rfl := sj hm1
      dsimp only at hm0
      obtain rfl := sj hm0
      exact ⟨H3, rfl, hO.done⟩
     ·intro hb19 hm1
      refine skip (region (val (x_move (.int .i64 v8) f5_1) ?_))
      refine val (x_add rfl rfl) ?_
      refine val (x_assign (.int .i64 (i64w (v8 + 1))) rfl) ?_
      refine nil ?_
      exact ⟨_, Nat.lt_succ_self _, rest6, i64w (v8 + 1), H3, rfl, hm1, le4, hO.pick _ trivial, f0_1, f1_1, rfl⟩
    ·intro hb9 hm1
     refine W.exit _ rfl ?_
     obtain rfl := sj hm1
     exact ⟨v8, H3, rfl, le4, hO.pick _ trivial⟩
  ·intro r w
   rintro ⟨v22, H20, rfl, le21, hO⟩
   dsimp only at hm0
   refine seq (region (val (x_assign (.bool true) rfl) ?_))
   refine nil (W.ret ?_)
   obtain rfl := sj hm0
   exact ⟨H20, rfl, hO.done⟩
theorem switchboardref15_Same_ok {w0 : World} {H0 : IHeap} (hS : Sub H0 w0) {p0 : List (List Int)} {p1 : List (List Int)}  {A1_ : Option Addr} {c1_ : Nat} {A2_ : Option Addr} {c2_ : Nat} (h1_ : RS (eSl (eInt .i64)) H0 A1_ c1_ p0) (h2_ : RS (eSl (eInt .i64)) H0 A2_ c2_ p1) {res : Bool} (hm0 : switchboardref15_Same p0 p1 = some res) :
  Ok prog 16 [(.slice A1_ p0.length c1_), (.slice A2_ p1.length c2_)].toArray w0 H0 (fun H' v => v = (.bool res)) := by
 unfold switchboardref15_Same at hm0
 refine ok_of_W Tryz.func16 rfl Tryz.ntmps16 (ts := [4]) rfl rfl rfl ?_
 have hO := St.start hS
 refine seq (region (val (x_assign (.bool false) rfl) ?_))
 refine nil (seq (seq (region (val (x_move (.slice A1_ p0.length c1_) rfl) ?_))))
 refine val (x_len rfl underlying25) ?_
 refine val (x_move (.slice A2_ p1.length c2_) rfl) ?_
 refine val (x_len rfl underlying25) ?_
 refine val (x_neq rfl rfl) ?_
 refine nil (test rfl hm0 ?_ ?_)
 ·intro hb1 hm0
  refine seq (region (val (x_assign (.bool false) rfl) ?_))
  refine nil (W.ret ?_)
  obtain rfl := sj hm0
  exact ⟨H0, rfl, hO.done⟩
 ·intro hb1 hm0
  refine skip (seq (seq (region (val (x_assign (.int .i64 0) rfl) ?_))))
  refine nil ?_
  obtain ⟨o2, hm1, hm0⟩ := bindSome hm0
  have hO := hO.pick [] trivial
  refine W.blockLoop (fun r w => ∃ (v8 : Int) (H3 : IHeap), .out v8 = o2 ∧ Le H0 H3 ∧ St w0 H0 [] H3 (ol []) w) (fun k r w => ∃ (rest6 : Nat) (v8 : Int) (H3 : IHeap), rest6 = k ∧ switchboardref15_Same_l1 p0 p1 rest6 v8 = some o2 ∧ Le H0 H3 ∧ St w0 H0 [] H3 (ol []) w ∧ r 0 = (.slice A1_ p0.length c1_) ∧ r 1 = (.slice A2_ p1.length c2_) ∧ r 5 = (.int .i64 v8)) FUEL ?_ ?_ ?_
  ·exact ⟨_, 0, _, rfl, hm1, Le.refl _, hO, rfl, rfl, rfl⟩
  ·
   intro k r w
   rintro ⟨rest6, v8, H3, rfl, hm1, le4, hO, f0_1, f1_1, f5_1⟩
   cases rest6 with
   | zero => rw [switchboardref15_Same_l1] at hm1; cases hm1
   | succ rest6 =>
    rw [switchboardref15_Same_l1] at hm1
    refine seq (seq (region (val (x_move (.int .i64 v8) f5_1) ?_)))
    refine val (x_move (.slice A1_ p0.length c1_) f0_1) ?_
    refine val (x_len rfl underlying25) ?_
    refine val (x_lss rfl rfl) ?_
    refine nil (test rfl hm1 ?_ ?_)
    ·intro hb9 hm1
     refine skip (seq (W.block ?_))
     refine seq ?_
     have hO := hO.pick [] trivial
     refine W.draw (SD w0 H0 [] H3 []) (fun i => ([] : List Nat).contains i) mixed 10 rfl _ rfl ?_
     intro w10 hh1 hh2 hh3 hh4; have hO := hO.same hh1 hh2 hh3 hh4; clear hh1 hh2 hh3 hh4
     have hS : SD w0 H0 [] H3 [] w10 := ⟨_, _, Le.refl _, hO, trivial⟩
     refine take (i := 0) rfl (by kernel_rfl) (fun w hS => x_move (.slice A1_ p0.length c1_) f0_1) hS ?_
     refine take (i := 1) rfl (by kernel_rfl) (fun w hS => x_move (.int .i64 v8) f5_1) hS ?_
     obtain ⟨hin14, hm1⟩ := chk hm1
     obtain ⟨a11, h12, hA13⟩ := RS.at_ (h1_.up le4) hin14
     refine take (i := 2) rfl (by kernel_rfl) (fun w hS => x_ia (sA rfl hA13) rfl sle25 hin14) hS ?_
     obtain ⟨A15, c16, h17, hc18⟩ := At.sl h12
     refine take (i := 3) rfl (by kernel_rfl) (fun w hS => x_ldc rfl (hc18 _ hS.sub) one61) hS ?_
     refine take (i := 4) rfl (by kernel_rfl) (fun w hS => x_move (.slice A2_ p1.length c2_) f1_1) hS ?_
     refine take (i := 5) rfl (by kernel_rfl) (fun w hS => x_move (.int .i64 v8) f5_1) hS ?_
     obtain ⟨hin22, hm1⟩ := chk hm1
     obtain ⟨a19, h20, hA21⟩ := RS.at_ (h2_.up le4) hin22
     refine take (i := 6) rfl (by kernel_rfl) (fun w hS => x_ia (sA rfl hA21) rfl sle25 hin22) hS ?_
     obtain ⟨A23, c24, h25, hc26⟩ := At.sl h20
     refine take (i := 7) rfl (by kernel_rfl) (fun w hS => x_ldc rfl (hc26 _ hS.sub) one61) hS ?_
     refine WA.only (i := 8) (by kernel_rfl) rfl ?_
     obtain ⟨t27, ht28, hm1⟩ := bindSome hm1
     refine o_call hO go52 (switchboardref02_Same_ok hO.sub h17 h25 ht28) rfl ?_
     rintro _ H29 w30 le31 rfl hO
     have hS : SD w0 H0 [] H3 [] _ := ⟨_, _, le31, hO, trivial⟩
     refine nil ⟨fun _ => hS, ?_⟩
     refine take (i := 9) rfl (by kernel_rfl) (fun w hS => x_not rfl) hS ?_
     refine WA.done (by kernel_rfl) ?_
     refine test rfl hm1 ?_ ?_
     ·intro hb32 hm1
      refine seq (region (val (x_assign (.bool false) rfl) ?_))
      refine nil (W.ret ?_)
      obtain rfl := sj hm1
      dsimp only at hm0
      obtain rfl := sj hm0
      exact ⟨H29, rfl, hO.done⟩
     ·intro hb32 hm1
      refine skip (region (val (x_move (.int .i64 v8) f5_1) ?_))
      refine val (x_add rfl rfl) ?_
      refine val (x_assign (.int .i64 (i64w (v8 + 1))) rfl) ?_
      refine nil ?_
      exact ⟨_, Nat.lt_succ_self _, rest6, i64w (v8 + 1), H29, rfl, hm1, (le4.trans le31), hO.pick _ trivial, f0_1, f1_1, rfl⟩
    ·intro hb9 hm1
     refine W.exit _ rfl ?_
     obtain rfl := sj hm1
     exact ⟨v8, H3, rfl, le4, hO.pick _ trivial⟩
  ·intro r w
   rintro ⟨v35, H33, rfl, le34, hO⟩
   dsimp only at hm0
   refine seq (region (val (x_assign (.bool true) rfl) ?_))
   refine nil (W.ret ?_)
   obtain rfl := sj hm0
   exact ⟨H33, rfl, hO.done⟩
end Go.Sw

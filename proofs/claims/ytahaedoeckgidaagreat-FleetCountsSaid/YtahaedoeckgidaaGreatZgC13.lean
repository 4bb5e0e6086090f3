/- The calls compute the mirrors. -/
import Derived.Test.YtahaedoeckgidaaGreatZgF
import Derived.Test.YtahaedoeckgidaaGreatZgC12
set_option linter.unusedVariables false
set_option linter.unusedSimpArgs false
set_option maxRecDepth 100000
namespace Go.Sw
open WL (val nil gval yes no)
open W (region test seq skip)
open WA (take)
open Go.Proofs.Tryz
open Go.Proofs
theorem switchboardref02_Dot_ok {w0 : World} {H0 : IHeap} (hS : Sub H0 w0) {p0 : List Int} {p1 : List Int}  {A1_ : Option Addr} {c1_ : Nat} {A2_ : Option Addr} {c2_ : Nat} (h1_ : RS (eInt .i64) H0 A1_ c1_ p0) (h2_ : RS (eInt .i64) H0 A2_ c2_ p1) {res : Int} (hm0 : switchboardref02_Dot p0 p1 = some res) :
  Ok prog 128 [(.slice A1_ p0.length c1_), (.slice A2_ p1.length c2_)].toArray w0 H0 (fun H' v => v = (.int .i64 res)) := by
 unfold switchboardref02_Dot at hm0
 refine ok_of_W Tryz.func128 rfl Tryz.ntmps128 (ts := [4]) rfl rfl rfl ?_
 have hO := St.start hS
 refine seq (region (val (x_assign (.int .i64 0) rfl) ?_))
 refine nil (seq (region (val (x_assign (.int .i64 0) rfl) ?_)))
 refine nil (seq (seq (region (val (x_assign (.int .i64 0) rfl) ?_))))
 refine nil ?_
 obtain ⟨o1, hm1, hm0⟩ := bindSome hm0
 have hO := hO.pick [] trivial
 refine W.blockLoop (fun r w => ∃ (v7 : Int) (v8 : Int) (H2 : IHeap), (v7, v8) = o1 ∧ Le H0 H2 ∧ St w0 H0 [] H2 (ol []) w ∧ r 5 = (.int .i64 v7)) (fun k r w => ∃ (rest5 : Nat) (v7 : Int) (v8 : Int) (H2 : IHeap), rest5 = k ∧ switchboardref02_Dot_l1 p0 p1 rest5 v7 v8 = some o1 ∧ Le H0 H2 ∧ St w0 H0 [] H2 (ol []) w ∧ r 0 = (.slice A1_ p0.length c1_) ∧ r 1 = (.slice A2_ p1.length c2_) ∧ r 5 = (.int .i64 v7) ∧ r 6 = (.int .i64 v8)) FUEL ?_ ?_ ?_
 ·exact ⟨_, 0, 0, _, rfl, hm1, Le.refl _, hO, rfl, rfl, rfl, rfl⟩
 ·
  intro k r w
  rintro ⟨rest5, v7, v8, H2, rfl, hm1, le3, hO, f0_1, f1_1, f5_1, f6_1⟩
  cases rest5 with
  | zero => rw [switchboardref02_Dot_l1] at hm1; cases hm1
  | succ rest5 =>
   rw [switchboardref02_Dot_l1] at hm1
   refine seq (seq (region (val (x_move (.int .i64 v8) f6_1) ?_)))
   refine val (x_move (.slice A1_ p0.length c1_) f0_1) ?_
   refine val (x_len rfl underlying61) ?_
   refine val (x_lss rfl rfl) ?_
   refine nil (test rfl hm1 ?_ ?_)
   ·intro hb9 hm1
    refine skip (seq (W.block ?_))
    have hO := hO.pick [] trivial
    refine W.draw (SD w0 H0 [] H2 []) (fun i => ([] : List Nat).contains i) mixed 13 rfl _ rfl ?_
    intro w10 hh1 hh2 hh3 hh4; have hO := hO.same hh1 hh2 hh3 hh4; clear hh1 hh2 hh3 hh4
    have hS : SD w0 H0 [] H2 [] w10 := ⟨_, _, Le.refl _, hO, trivial⟩
    refine take (i := 0) rfl (by kernel_rfl) (fun w hS => x_move (.int .i64 v7) f5_1) hS ?_
    refine take (i := 1) rfl (by kernel_rfl) (fun w hS => x_move (.slice A1_ p0.length c1_) f0_1) hS ?_
    refine take (i := 2) rfl (by kernel_rfl) (fun w hS => x_move (.int .i64 v8) f6_1) hS ?_
    obtain ⟨hin14, hm1⟩ := chk hm1
    obtain ⟨a11, h12, hA13⟩ := RS.at_ (h1_.up le3) hin14
    refine take (i := 3) rfl (by kernel_rfl) (fun w hS => x_ia (sA rfl hA13) rfl sle61 hin14) hS ?_
    refine take (i := 4) rfl (by kernel_rfl) (fun w hS => x_ldc rfl (h12.int _ hS.sub) one3) hS ?_
    refine take (i := 5) rfl (by kernel_rfl) (fun w hS => x_move (.slice A2_ p1.length c2_) f1_1) hS ?_
    refine take (i := 6) rfl (by kernel_rfl) (fun w hS => x_move (.int .i64 v8) f6_1) hS ?_
    obtain ⟨hin18, hm1⟩ := chk hm1
    obtain ⟨a15, h16, hA17⟩ := RS.at_ (h2_.up le3) hin18
    refine take (i := 7) rfl (by kernel_rfl) (fun w hS => x_ia (sA rfl hA17) rfl sle61 hin18) hS ?_
    refine take (i := 8) rfl (by kernel_rfl) (fun w hS => x_ldc rfl (h16.int _ hS.sub) one3) hS ?_
    refine WA.only (i := 9) (by kernel_rfl) rfl ?_
    obtain ⟨t19, ht20, hm1⟩ := bindSome hm1
    refine o_call hO go89 (switchboardref01_Mul_ok hO.sub  ht20) rfl ?_
    rintro _ H21 w22 le23 rfl hO
    have hS : SD w0 H0 [] H2 [] _ := ⟨_, _, le23, hO, trivial⟩
    refine nil ⟨fun _ => hS, ?_⟩
    refine take (i := 10) rfl (by kernel_rfl) (fun w hS => x_add rfl rfl) hS ?_
    refine WA.only (i := 11) (by kernel_rfl) rfl ?_
    obtain ⟨t24, ht25, hm1⟩ := bindSome hm1
    refine o_call hO go88 (switchboardref01_Hold_ok hO.sub  ht25) rfl ?_
    rintro _ H26 w27 le28 rfl hO
    have hS : SD w0 H0 [] H2 [] _ := ⟨_, _, (le23.trans le28), hO, trivial⟩
    refine nil ⟨fun _ => hS, ?_⟩
    refine take (i := 12) rfl (by kernel_rfl) (fun w hS => x_assign (.int .i64 t24) rfl) hS ?_
    refine WA.done (by kernel_rfl) ?_
    refine region (val (x_move (.int .i64 v8) f6_1) ?_)
    refine val (x_add rfl rfl) ?_
    refine val (x_assign (.int .i64 (i64w (v8 + 1))) rfl) ?_
    refine nil ?_
    exact ⟨_, Nat.lt_succ_self _, rest5, t24, i64w (v8 + 1), H26, rfl, hm1, (le3.trans (le23.trans le28)), hO.pick _ trivial, f0_1, f1_1, rfl, rfl⟩
   ·intro hb9 hm1
    refine W.exit _ rfl ?_
    obtain rfl := sj hm1
    exact ⟨v7, v8, H2, rfl, le3, hO.pick _ trivial, f5_1⟩
 ·intro r w
  rintro ⟨v31, v32, H29, rfl, le30, hO, f34⟩
  dsimp only at hm0
  refine seq (region (val (x_move (.int .i64 v31) f34) ?_))
  refine val (x_assign (.int .i64 v31) rfl) ?_
  refine nil (W.ret ?_)
  obtain rfl := sj hm0
  exact ⟨H29, rfl, hO.done⟩
theorem switchboardref03_Apply_ok {w0 : World} {H0 : IHeap} (hS : Sub H0 w0) {p0 : List (List Int)} {p1 : List Int}  {A1_ : Option Addr} {c1_ : Nat} {A2_ : Option Addr} {c2_ : Nat} (h1_ : RS (eSl (eInt .i64)) H0 A1_ c1_ p0) (h2_ : RS (eInt .i64) H0 A2_ c2_ p1) {res : (List Int) × Bool} (hm0 : switchboardref03_Apply p0 p1 = some res) :
  Ok prog 84 [(.slice A1_ p0.length c1_), (.slice A2_ p1.length c2_)].toArray w0 H0 (fun H' v => ∃ (A1 : Option Addr) (c1 : Nat), v = (.tuple #[(.slice A1 res.1.length c1), (.bool res.2)]) ∧ RS (eInt .i64) H' A1 c1 res.1) := by
 unfold switchboardref03_Apply at hm0
 refine ok_of_W Tryz.func84 rfl Tryz.ntmps84 (ts := [4, 5]) rfl rfl rfl ?_
 have hO := St.start hS
 refine seq (region (val (x_assign (.slice none 0 0) rfl) ?_))
 refine val (x_assign (.bool false) rfl) ?_
 refine nil (seq (region (val (x_assign (.slice none 0 0) rfl) ?_)))
 refine nil (seq (seq (region (val (x_assign (.int .i64 0) rfl) ?_))))
 refine nil ?_
 have hO := hO.nilRowT (α := Int) 0 none 3 (eInt .i64)
 obtain ⟨o1, hm1, hm0⟩ := bindSome hm0
 have hO := hO.pick [(0, .row none 0 3 (eInt .i64).size ([] : List Int).length [])] ⟨rfl, trivial⟩
 refine W.blockLoop (fun r w => ∃ (v7 : List Int) (A8 : Option Addr) (c9 : Nat) (cs10 : List Value) (v12 : Int) (H2 : IHeap), .out (v7, v12) = o1 ∧ Le H0 H2 ∧ St w0 H0 [] H2 (ol [(0, .row A8 c9 3 (eInt .i64).size v7.length cs10)]) w ∧ r 6 = (.slice A8 v7.length c9) ∧ Rows (eInt .i64) H2 cs10 v7) (fun k r w => ∃ (rest5 : Nat) (v7 : List Int) (A8 : Option Addr) (c9 : Nat) (cs10 : List Value) (v12 : Int) (H2 : IHeap), rest5 = k ∧ switchboardref03_Apply_l1 p0 p1 rest5 v7 v12 = some o1 ∧ Le H0 H2 ∧ St w0 H0 [] H2 (ol [(0, .row A8 c9 3 (eInt .i64).size v7.length cs10)]) w ∧ r 0 = (.slice A1_ p0.length c1_) ∧ r 1 = (.slice A2_ p1.length c2_) ∧ r 6 = (.slice A8 v7.length c9) ∧ r 7 = (.int .i64 v12) ∧ Rows (eInt .i64) H2 cs10 v7) FUEL ?_ ?_ ?_
 ·exact ⟨_, ([] : List Int), none, 0, [], 0, _, rfl, hm1, Le.refl _, hO, rfl, rfl, rfl, rfl, Rows.nil⟩
 ·
  intro k r w
  rintro ⟨rest5, v7, A8, c9, cs10, v12, H2, rfl, hm1, le3, hO, f0_1, f1_1, f6_1, f7_1, h11⟩
  cases rest5 with
  | zero => rw [switchboardref03_Apply_l1] at hm1; cases hm1
  | succ rest5 =>
   rw [switchboardref03_Apply_l1] at hm1
   refine seq (seq (region (val (x_move (.int .i64 v12) f7_1) ?_)))
   refine val (x_move (.slice A1_ p0.length c1_) f0_1) ?_
   refine val (x_len rfl underlying25) ?_
   refine val (x_lss rfl rfl) ?_
   refine nil (test rfl hm1 ?_ ?_)
   ·intro hb13 hm1
    refine skip (seq (W.block ?_))
    refine seq (seq (region (val (x_move (.slice A1_ p0.length c1_) f0_1) ?_)))
    refine val (x_move (.int .i64 v12) f7_1) ?_
    obtain ⟨hin17, hm1⟩ := chk hm1
    obtain ⟨a14, h15, hA16⟩ := RS.at_ (h1_.up le3) hin17
    refine val (x_ia (sA rfl hA16) rfl sle25 hin17) ?_
    obtain ⟨A18, c19, h20, hc21⟩ := At.sl h15
    refine val (x_ldc rfl (hc21 _ hO.sub) one61) ?_
    refine val (x_len rfl underlying61) ?_
    refine val (x_move (.slice A2_ p1.length c2_) f1_1) ?_
    refine val (x_len rfl underlying61) ?_
    refine val (x_neq rfl rfl) ?_
    refine nil (test rfl hm1 ?_ ?_)
    ·intro hb22 hm1
     refine seq (region (val (x_assign (.slice none 0 0) rfl) ?_))
     refine val (x_assign (.bool false) rfl) ?_
     refine nil (W.ret ?_)
     obtain rfl := sj hm1
     dsimp only at hm0
     obtain rfl := sj hm0
     exact ⟨H2, ⟨none, 0, rfl, (RS.nil0 _ _)⟩, hO.done⟩
    ·intro hb22 hm1
     refine skip (region (val (x_move (.slice A8 v7.length c9) f6_1) ?_))
     refine val (x_move (.slice A1_ p0.length c1_) f0_1) ?_
     refine val (x_move (.int .i64 v12) f7_1) ?_
     obtain ⟨hin26, hm1⟩ := chk hm1
     obtain ⟨a23, h24, hA25⟩ := RS.at_ (h1_.up le3) hin26
     refine val (x_ia (sA rfl hA25) rfl sle25 hin26) ?_
     obtain ⟨A27, c28, h29, hc30⟩ := At.sl h24
     refine val (x_ldc rfl (hc30 _ hO.sub) one61) ?_
     refine val (x_move (.slice A2_ p1.length c2_) f1_1) ?_
     obtain ⟨t31, ht32, hm1⟩ := bindSome hm1
     refine o_call hO go128 (switchboardref02_Dot_ok hO.sub h29 (h2_.up le3) ht32) rfl ?_
     rintro _ H33 w34 le35 rfl hO
     refine o_litT (en := (eInt .i64)) 1 [(.int .i64 t31)] ([t31] : List Int) hO sli61 ⟨rfl, trivial⟩ rfl rfl rfl ?_
     intro g36 cs37 w38 hr39 hO
     refine o_appT (en := (eInt .i64)) (xs := v7) (ys := ([t31] : List Int)) 0 hO rfl (h11.up le35) rfl rfl (Src.row (k := 1) hO rfl) hr39 sli61 rfl rfl underlying61 hm1 ?_
     intro A40 c41 cs42 w43 hr44 hO hm1
     refine val (x_assign (.slice A40 (v7 ++ ([t31] : List Int)).length c41) rfl) ?_
     refine nil (region (val (x_move (.int .i64 v12) f7_1) ?_))
     refine val (x_add rfl rfl) ?_
     refine val (x_assign (.int .i64 (i64w (v12 + 1))) rfl) ?_
     refine nil ?_
     exact ⟨_, Nat.lt_succ_self _, rest5, (v7 ++ ([t31] : List Int)), A40, c41, cs42, i64w (v12 + 1), H33, rfl, hm1, (le3.trans le35), hO.pick _ ⟨rfl, trivial⟩, f0_1, f1_1, rfl, rfl, hr44⟩
   ·intro hb13 hm1
    refine W.exit _ rfl ?_
    obtain rfl := sj hm1
    exact ⟨v7, A8, c9, cs10, v12, H2, rfl, le3, hO.pick _ ⟨rfl, trivial⟩, f6_1, h11⟩
 ·intro r w
  rintro ⟨v47, A48, c49, cs51, v52, H45, rfl, le46, hO, f54, h50⟩
  dsimp only at hm0
  refine seq (region (val (x_move (.slice A48 v47.length c49) f54) ?_))
  refine val (x_assign (.slice A48 v47.length c49) rfl) ?_
  refine val (x_assign (.bool true) rfl) ?_
  refine nil (W.ret ?_)
  obtain ⟨H55, le56, h57, hO⟩ := hO.freezeRow (en := (eInt .i64)) 0 rfl rfl rfl h50
  obtain rfl := sj hm0
  exact ⟨H55, ⟨A48, c49, rfl, h57⟩, hO.done⟩
theorem switchboardref04_Rank_ok {w0 : World} {H0 : IHeap} (hS : Sub H0 w0) {p0 : List Int} {p1 : Int}  {A1_ : Option Addr} {c1_ : Nat} (h1_ : RS (eInt .i64) H0 A1_ c1_ p0) {res : Int} (hm0 : switchboardref04_Rank p0 p1 = some res) :
  Ok prog 129 [(.slice A1_ p0.length c1_), (.int .i64 p1)].toArray w0 H0 (fun H' v => v = (.int .i64 res)) := by
 unfold switchboardref04_Rank at hm0
 refine ok_of_W Tryz.func129 rfl Tryz.ntmps129 (ts := [4]) rfl rfl rfl ?_
 have hO := St.start hS
 refine seq (region (val (x_assign (.int .i64 0) rfl) ?_))
 refine nil (seq (region (val (x_assign (.int .i64 0) rfl) ?_)))
 refine nil (seq (seq (region (val (x_assign (.int .i64 0) rfl) ?_))))
 refine nil ?_
 obtain ⟨o1, hm1, hm0⟩ := bindSome hm0
 have hO := hO.pick [] trivial
 refine W.blockLoop (fun r w => ∃ (v7 : Int) (v8 : Int) (H2 : IHeap), (v7, v8) = o1 ∧ Le H0 H2 ∧ St w0 H0 [] H2 (ol []) w ∧ r 5 = (.int .i64 v7)) (fun k r w => ∃ (rest5 : Nat) (v7 : Int) (v8 : Int) (H2 : IHeap), rest5 = k ∧ switchboardref04_Rank_l1 p0 p1 rest5 v7 v8 = some o1 ∧ Le H0 H2 ∧ St w0 H0 [] H2 (ol []) w ∧ r 0 = (.slice A1_ p0.length c1_) ∧ r 1 = (.int .i64 p1) ∧ r 5 = (.int .i64 v7) ∧ r 6 = (.int .i64 v8)) FUEL ?_ ?_ ?_
 ·exact ⟨_, 0, 0, _, rfl, hm1, Le.refl _, hO, rfl, rfl, rfl, rfl⟩
 ·
  intro k r w
  rintro ⟨rest5, v7, v8, H2, rfl, hm1, le3, hO, f0_1, f1_1, f5_1, f6_1⟩
  cases rest5 with
  | zero => rw [switchboardref04_Rank_l1] at hm1; cases hm1
  | succ rest5 =>
   rw [switchboardref04_Rank_l1] at hm1
   refine seq (seq (region (val (x_move (.int .i64 v8) f6_1) ?_)))
   refine val (x_move (.slice A1_ p0.length c1_) f0_1) ?_
   refine val (x_len rfl underlying61) ?_
   refine val (x_lss rfl rfl) ?_
   refine nil (test rfl hm1 ?_ ?_)
   ·intro hb9 hm1
    refine skip (seq (W.block ?_))
    refine seq ?_
    have hO := hO.pick [] trivial
    refine W.draw (SD w0 H0 [] H2 []) (fun i => ([] : List Nat).contains i) mixed 25 rfl _ rfl ?_
    intro w10 hh1 hh2 hh3 hh4; have hO := hO.same hh1 hh2 hh3 hh4; clear hh1 hh2 hh3 hh4
    have hS : SD w0 H0 [] H2 [] w10 := ⟨_, _, Le.refl _, hO, trivial⟩
    refine take (i := 0) rfl (by kernel_rfl) (fun w hS => x_move (.slice A1_ p0.length c1_) f0_1) hS ?_
    refine take (i := 1) rfl (by kernel_rfl) (fun w hS => x_move (.int .i64 v8) f6_1) hS ?_
    obtain ⟨hin14, hm1⟩ := chk hm1
    obtain ⟨a11, h12, hA13⟩ := RS.at_ (h1_.up le3) hin14
    refine take (i := 2) rfl (by kernel_rfl) (fun w hS => x_ia (sA rfl hA13) rfl sle61 hin14) hS ?_
    refine take (i := 3) rfl (by kernel_rfl) (fun w hS => x_ldc rfl (h12.int _ hS.sub) one3) hS ?_
    refine take (i := 4) rfl (by kernel_rfl) (fun w hS => x_move (.slice A1_ p0.length c1_) f0_1) hS ?_
    refine take (i := 5) rfl (by kernel_rfl) (fun w hS => x_move (.int .i64 p1) f1_1) hS ?_
    obtain ⟨hin18, hm1⟩ := chk hm1
    obtain ⟨a15, h16, hA17⟩ := RS.at_ (h1_.up le3) hin18
    refine take (i := 6) rfl (by kernel_rfl) (fun w hS => x_ia (sA rfl hA17) rfl sle61 hin18) hS ?_
    refine take (i := 7) rfl (by kernel_rfl) (fun w hS => x_ldc rfl (h16.int _ hS.sub) one3) hS ?_
    refine take (i := 8) rfl (by kernel_rfl) (fun w hS => x_gtr rfl rfl) hS ?_
    refine take (i := 9) rfl (by kernel_rfl) (fun w hS => x_move (.bool (decide ((at0 p0 p1) < (at0 p0 v8)))) rfl) hS ?_
    refine WA.gtake (i := 10) rfl rfl rfl (by kernel_rfl) (fun hb w hS => x_move (.slice A1_ p0.length c1_) f0_1) hS ?_
    refine WA.gtake (i := 11) rfl rfl rfl (by kernel_rfl) (fun hb w hS => x_move (.int .i64 v8) f6_1) hS ?_
    rcases btest hm1 with ⟨hb19, hm1⟩ | ⟨hb19, hm1⟩
    ·refine WA.takeN (i := 12) rfl rfl (kb rfl hb19) rfl (by kernel_rfl) hS ?_
     refine WA.takeN (i := 13) rfl rfl (kb rfl hb19) rfl (by kernel_rfl) hS ?_
     refine WA.takeN (i := 14) rfl rfl (kb rfl hb19) rfl (by kernel_rfl) hS ?_
     refine WA.takeN (i := 15) rfl rfl (kb rfl hb19) rfl (by kernel_rfl) hS ?_
     refine WA.takeN (i := 16) rfl rfl (kb rfl hb19) rfl (by kernel_rfl) hS ?_
     refine WA.takeN (i := 17) rfl rfl (kb rfl hb19) rfl (by kernel_rfl) hS ?_
     refine WA.takeN (i := 18) rfl rfl (kb rfl hb19) rfl (by kernel_rfl) hS ?_
     refine WA.takeN (i := 19) rfl rfl (kb rfl hb19) rfl (by kernel_rfl) hS ?_
     refine WA.takeU (i := 20) rfl rfl rfl (by kernel_rfl) hS ?_
     refine WA.takeU (i := 21) rfl rfl rfl (by kernel_rfl) hS ?_
     refine WA.takeU (i := 22) rfl rfl rfl (by kernel_rfl) hS ?_
     refine WA.takeN (i := 23) rfl rfl (kb rfl hb19) rfl (by kernel_rfl) hS ?_
     refine take (i := 24) rfl (by kernel_rfl) (fun w hS => x_pick_t (kb rfl hb19) (.bool true) rfl) hS ?_
     refine WA.done (by kernel_rfl) ?_
     refine W.cond_t rfl ?_
     refine region (val (x_move (.int .i64 v7) f5_1) ?_)
     refine val (x_add rfl rfl) ?_
     refine val (x_assign (.int .i64 (i64w (v7 + 1))) rfl) ?_
     refine nil (region (val (x_move (.int .i64 v8) f6_1) ?_))
     refine val (x_add rfl rfl) ?_
     refine val (x_assign (.int .i64 (i64w (v8 + 1))) rfl) ?_
     refine nil ?_
     exact ⟨_, Nat.lt_succ_self _, rest5, i64w (v7 + 1), i64w (v8 + 1), H2, rfl, hm1, le3, hO.pick _ trivial, f0_1, f1_1, rfl, rfl⟩
    ·obtain ⟨hin23, hm1⟩ := chk hm1
     obtain ⟨a20, h21, hA22⟩ := RS.at_ (h1_.up le3) hin23
     refine WA.takeY (i := 12) rfl rfl (kb rfl hb19) (by kernel_rfl) (fun w hS => x_ia (sA (by exact gkF hb19) hA22) (by exact gkF hb19) sle61 hin23) hS ?_
     refine WA.takeY (i := 13) rfl rfl (kb rfl hb19) (by kernel_rfl) (fun w hS => x_ldc rfl (h21.int _ hS.sub) one3) hS ?_
     refine WA.takeY (i := 14) rfl rfl (kb rfl hb19) (by kernel_rfl) (fun w hS => x_move (.slice A1_ p0.length c1_) f0_1) hS ?_
     refine WA.takeY (i := 15) rfl rfl (kb rfl hb19) (by kernel_rfl) (fun w hS => x_move (.int .i64 p1) f1_1) hS ?_
     obtain ⟨hin27, hm1⟩ := chk hm1
     obtain ⟨a24, h25, hA26⟩ := RS.at_ (h1_.up le3) hin27
     refine WA.takeY (i := 16) rfl rfl (kb rfl hb19) (by kernel_rfl) (fun w hS => x_ia (sA rfl hA26) rfl sle61 hin27) hS ?_
     refine WA.takeY (i := 17) rfl rfl (kb rfl hb19) (by kernel_rfl) (fun w hS => x_ldc rfl (h25.int _ hS.sub) one3) hS ?_
     refine WA.takeY (i := 18) rfl rfl (kb rfl hb19) (by kernel_rfl) (fun w hS => x_eql rfl rfl) hS ?_
     refine WA.takeY (i := 19) rfl rfl (kb rfl hb19) (by kernel_rfl) (fun w hS => x_move (.bool ((at0 p0 v8) == (at0 p0 p1))) rfl) hS ?_
     refine WA.gtake (i := 20) rfl rfl rfl (by kernel_rfl) (fun hb w hS => x_move (.int .i64 v8) f6_1) hS ?_
     refine WA.gtake (i := 21) rfl rfl rfl (by kernel_rfl) (fun hb w hS => x_move (.int .i64 p1) f1_1) hS ?_
     refine WA.gtake (i := 22) rfl rfl rfl (by kernel_rfl) (fun hb w hS => x_lss (gv hb) (gv hb)) hS ?_
     refine WA.takeY (i := 23) rfl rfl (kb rfl hb19) (by kernel_rfl) (fun w hS => x_pick rfl (.bool (((at0 p0 v8) == (at0 p0 p1)) && (decide (v8 < p1)))) pick_and) hS ?_
     refine take (i := 24) rfl (by kernel_rfl) (fun w hS => x_pick_f (kb rfl hb19) (.bool (((at0 p0 v8) == (at0 p0 p1)) && (decide (v8 < p1)))) rfl) hS ?_
     refine WA.done (by kernel_rfl) ?_
     refine test rfl hm1 ?_ ?_
     ·intro hb28 hm1
      refine region (val (x_move (.int .i64 v7) f5_1) ?_)
      refine val (x_add rfl rfl) ?_
      refine val (x_assign (.int .i64 (i64w (v7 + 1))) rfl) ?_
      refine nil (region (val (x_move (.int .i64 v8) f6_1) ?_))
      refine val (x_add rfl rfl) ?_
      refine val (x_assign (.int .i64 (i64w (v8 + 1))) rfl) ?_
      refine nil ?_
      exact ⟨_, Nat.lt_succ_self _, rest5, i64w (v7 + 1), i64w (v8 + 1), H2, rfl, hm1, le3, hO.pick _ trivial, f0_1, f1_1, rfl, rfl⟩
     ·intro hb28 hm1
      refine skip (region (val (x_move (.int .i64 v8) f6_1) ?_))
      refine val (x_add rfl rfl) ?_
      refine val (x_assign (.int .i64 (i64w (v8 + 1))) rfl) ?_
      refine nil ?_
      exact ⟨_, Nat.lt_succ_self _, rest5, v7, i64w (v8 + 1), H2, rfl, hm1, le3, hO.pick _ trivial, f0_1, f1_1, f5_1, rfl⟩
   ·intro hb9 hm1
    refine W.exit _ rfl ?_
    obtain rfl := sj hm1
    exact ⟨v7, v8, H2, rfl, le3, hO.pick _ trivial, f5_1⟩
 ·intro r w
  rintro ⟨v31, v32, H29, rfl, le30, hO, f34⟩
  dsimp only at hm0
  refine seq (region (val (x_move (.int .i64 v31) f34) ?_))
  refine val (x_assign (.int .i64 v31) rfl) ?_
  refine nil (W.ret ?_)
  obtain rfl := sj hm0
  exact ⟨H29, rfl, hO.done⟩
theorem switchboardref04_Of_ok {w0 : World} {H0 : IHeap} (hS : Sub H0 w0) {p0 : List Int} {p1 : Int}  {A1_ : Option Addr} {c1_ : Nat} (h1_ : RS (eInt .i64) H0 A1_ c1_ p0) {res : Int} (hm0 : switchboardref04_Of p0 p1 = some res) :
  Ok prog 85 [(.slice A1_ p0.length c1_), (.int .i64 p1)].toArray w0 H0 (fun H' v => v = (.int .i64 res)) := by
 unfold switchboardref04_Of at hm0
 refine ok_of_W Tryz.func85 rfl Tryz.ntmps85 (ts := [4]) rfl rfl rfl ?_
 have hO := St.start hS
 refine seq (region (val (x_assign (.int .i64 0) rfl) ?_))
 refine nil (seq (seq (region (val (x_assign (.int .i64 0) rfl) ?_))))
 refine nil ?_
 obtain ⟨o1, hm1, hm0⟩ := bindSome hm0
 have hO := hO.pick [] trivial
 refine W.blockLoop (fun r w => ∃ (v7 : Int) (H2 : IHeap), .out v7 = o1 ∧ Le H0 H2 ∧ St w0 H0 [] H2 (ol []) w) (fun k r w => ∃ (rest5 : Nat) (v7 : Int) (H2 : IHeap), rest5 = k ∧ switchboardref04_Of_l1 p0 p1 rest5 v7 = some o1 ∧ Le H0 H2 ∧ St w0 H0 [] H2 (ol []) w ∧ r 0 = (.slice A1_ p0.length c1_) ∧ r 1 = (.int .i64 p1) ∧ r 5 = (.int .i64 v7)) FUEL ?_ ?_ ?_
 ·exact ⟨_, 0, _, rfl, hm1, Le.refl _, hO, rfl, rfl, rfl⟩
 ·
  intro k r w
  rintro ⟨rest5, v7, H2, rfl, hm1, le3, hO, f0_1, f1_1, f5_1⟩
  cases rest5 with
  | zero => rw [switchboardref04_Of_l1] at hm1; cases hm1
  | succ rest5 =>
   rw [switchboardref04_Of_l1] at hm1
   refine seq (seq (region (val (x_move (.int .i64 v7) f5_1) ?_)))
   refine val (x_move (.slice A1_ p0.length c1_) f0_1) ?_
   refine val (x_len rfl underlying61) ?_
   refine val (x_lss rfl rfl) ?_
   refine nil (test rfl hm1 ?_ ?_)
   ·intro hb8 hm1
    refine skip (seq (W.block ?_))
    refine seq (region (val (x_move (.slice A1_ p0.length c1_) f0_1) ?_))
    refine val (x_move (.int .i64 v7) f5_1) ?_
    obtain ⟨t9, ht10, hm1⟩ := bindSome hm1
    refine o_call hO go129 (switchboardref04_Rank_ok hO.sub (h1_.up le3) ht10) rfl ?_
    rintro _ H11 w12 le13 rfl hO
    refine val (x_move (.int .i64 p1) f1_1) ?_
    refine val (x_eql rfl rfl) ?_
    refine nil (test rfl hm1 ?_ ?_)
    ·intro hb14 hm1
     refine seq (region (val (x_move (.int .i64 v7) f5_1) ?_))
     refine val (x_assign (.int .i64 v7) rfl) ?_
     refine nil (W.ret ?_)
     obtain rfl := sj hm1
     dsimp only at hm0
     obtain rfl := sj hm0
     exact ⟨H11, rfl, hO.done⟩
    ·intro hb14 hm1
     refine skip (region (val (x_move (.int .i64 v7) f5_1) ?_))
     refine val (x_add rfl rfl) ?_
     refine val (x_assign (.int .i64 (i64w (v7 + 1))) rfl) ?_
     refine nil ?_
     exact ⟨_, Nat.lt_succ_self _, rest5, i64w (v7 + 1), H11, rfl, hm1, (le3.trans le13), hO.pick _ trivial, f0_1, f1_1, rfl⟩
   ·intro hb8 hm1
    refine W.exit _ rfl ?_
    obtain rfl := sj hm1
    exact ⟨v7, H2, rfl, le3, hO.pick _ trivial⟩
 ·intro r w
  rintro ⟨v17, H15, rfl, le16, hO⟩
  dsimp only at hm0
  refine seq (region (val (x_assign (.int .i64 (-1)) rfl) ?_))
  refine nil (W.ret ?_)
  obtain rfl := sj hm0
  exact ⟨H15, rfl, hO.done⟩
theorem switchboardref05_part_ok {w0 : World} {H0 : IHeap} (hS : Sub H0 w0) {p0 : Int}    {res : Int} (hm0 : switchboardref05_part p0 = some res) :
  Ok prog 130 [(.int .i64 p0)].toArray w0 H0 (fun H' v => v = (.int .i64 res)) := by
 unfold switchboardref05_part at hm0
 refine ok_of_W Tryz.func130 rfl Tryz.ntmps130 (ts := [2]) rfl rfl rfl ?_
 have hO := St.start hS
 refine seq (region (val (x_assign (.int .i64 0) rfl) ?_))
 refine nil (seq (seq (region (val (x_move (.int .i64 p0) rfl) ?_))))
 refine val (x_lss rfl rfl) ?_
 refine nil (test rfl hm0 ?_ ?_)
 ·intro hb1 hm0
  refine seq (region (val (x_assign (.int .i64 1) rfl) ?_))
  refine nil (W.ret ?_)
  obtain rfl := sj hm0
  exact ⟨H0, rfl, hO.done⟩
 ·intro hb1 hm0
  refine skip (seq (seq (region (val (x_move (.int .i64 p0) rfl) ?_))))
  refine val (x_gtr rfl rfl) ?_
  refine nil (test rfl hm0 ?_ ?_)
  ·intro hb2 hm0
   refine seq (region (val (x_assign (.int .i64 2147483648) rfl) ?_))
   refine nil (W.ret ?_)
   obtain rfl := sj hm0
   exact ⟨H0, rfl, hO.done⟩
  ·intro hb2 hm0
   refine skip (seq (region (val (x_move (.int .i64 p0) rfl) ?_)))
   refine val (x_add rfl rfl) ?_
   refine val (x_assign (.int .i64 (i64w (p0 + 1))) rfl) ?_
   refine nil (W.ret ?_)
   obtain rfl := sj hm0
   exact ⟨H0, rfl, hO.done⟩
theorem switchboardref05_Share_ok {w0 : World} {H0 : IHeap} (hS : Sub H0 w0) {p0 : Int} {p1 : Int}    {res : Int} (hm0 : switchboardref05_Share p0 p1 = some res) :
  Ok prog 86 [(.int .i64 p0), (.int .i64 p1)].toArray w0 H0 (fun H' v => v = (.int .i64 res)) := by
 unfold switchboardref05_Share at hm0
 refine ok_of_W Tryz.func86 rfl Tryz.ntmps86 (ts := [4]) rfl rfl rfl ?_
 have hO := St.start hS
 refine seq (region (val (x_assign (.int .i64 0) rfl) ?_))
 refine nil (seq (region (val (x_move (.int .i64 p0) rfl) ?_)))
 obtain ⟨t1, ht2, hm0⟩ := bindSome hm0
 refine o_call hO go130 (switchboardref05_part_ok hO.sub  ht2) rfl ?_
 rintro _ H3 w4 le5 rfl hO
 refine val (x_move (.int .i64 p1) rfl) ?_
 obtain ⟨t6, ht7, hm0⟩ := bindSome hm0
 refine o_call hO go130 (switchboardref05_part_ok hO.sub  ht7) rfl ?_
 rintro _ H8 w9 le10 rfl hO
 refine val (x_assign (.int .i64 t1) rfl) ?_
 refine val (x_assign (.int .i64 t6) rfl) ?_
 refine nil (seq (region (val (x_move (.int .i64 t1) rfl) ?_)))
 refine val (x_assign (.int .i64 0) rfl) ?_
 refine val (x_assign (.int .i64 t1) rfl) ?_
 refine nil (seq (seq (region (val (x_assign (.int .i64 0) rfl) ?_))))
 refine nil ?_
 obtain ⟨o11, hm1, hm0⟩ := bindSome hm0
 have hO := hO.pick [] trivial
 refine W.blockLoop (fun r w => ∃ (v17 : Int) (v18 : Int) (v19 : Int) (H12 : IHeap), (v17, v18, v19) = o11 ∧ Le H8 H12 ∧ St w0 H0 [] H12 (ol []) w ∧ r 7 = (.int .i64 v17)) (fun k r w => ∃ (rest15 : Nat) (v17 : Int) (v18 : Int) (v19 : Int) (H12 : IHeap), rest15 = k ∧ switchboardref05_Share_l1 t1 t6 rest15 v17 v18 v19 = some o11 ∧ Le H8 H12 ∧ St w0 H0 [] H12 (ol []) w ∧ r 5 = (.int .i64 t1) ∧ r 6 = (.int .i64 t6) ∧ r 7 = (.int .i64 v17) ∧ r 8 = (.int .i64 v18) ∧ r 9 = (.int .i64 v19)) FUEL ?_ ?_ ?_
 ·exact ⟨_, 0, t1, 0, _, rfl, hm1, Le.refl _, hO, rfl, rfl, rfl, rfl, rfl⟩
 ·
  intro k r w
  rintro ⟨rest15, v17, v18, v19, H12, rfl, hm1, le13, hO, f5_1, f6_1, f7_1, f8_1, f9_1⟩
  cases rest15 with
  | zero => rw [switchboardref05_Share_l1] at hm1; cases hm1
  | succ rest15 =>
   rw [switchboardref05_Share_l1] at hm1
   refine seq (seq (region (val (x_move (.int .i64 v19) f9_1) ?_)))
   refine val (x_lss rfl rfl) ?_
   refine nil (test rfl hm1 ?_ ?_)
   ·intro hb20 hm1
    refine skip (seq (W.block ?_))
    refine seq (region (val (x_move (.int .i64 v17) f7_1) ?_))
    refine val (x_mul rfl rfl) ?_
    refine val (x_move (.int .i64 v18) f8_1) ?_
    refine val (x_mul rfl rfl) ?_
    refine val (x_assign (.int .i64 (i64w (2 * v17))) rfl) ?_
    refine val (x_assign (.int .i64 (i64w (2 * v18))) rfl) ?_
    refine nil (seq (region (val (x_move (.int .i64 (i64w (2 * v18))) rfl) ?_)))
    refine val (x_move (.int .i64 t1) f5_1) ?_
    refine val (x_move (.int .i64 t6) f6_1) ?_
    refine val (x_add rfl rfl) ?_
    refine val (x_geq rfl rfl) ?_
    refine nil (test rfl hm1 ?_ ?_)
    ·intro hb21 hm1
     refine seq (region (val (x_move (.int .i64 (i64w (2 * v17))) rfl) ?_))
     refine val (x_add rfl rfl) ?_
     refine val (x_assign (.int .i64 (i64w ((i64w (2 * v17)) + 1))) rfl) ?_
     refine nil (region (val (x_move (.int .i64 (i64w (2 * v18))) rfl) ?_))
     refine val (x_move (.int .i64 t1) f5_1) ?_
     refine val (x_move (.int .i64 t6) f6_1) ?_
     refine val (x_add rfl rfl) ?_
     refine val (x_sub rfl rfl) ?_
     refine val (x_assign (.int .i64 (i64w ((i64w (2 * v18)) - (i64w (t1 + t6))))) rfl) ?_
     refine nil (region (val (x_move (.int .i64 v19) f9_1) ?_))
     refine val (x_add rfl rfl) ?_
     refine val (x_assign (.int .i64 (i64w (v19 + 1))) rfl) ?_
     refine nil ?_
     exact ⟨_, Nat.lt_succ_self _, rest15, i64w ((i64w (2 * v17)) + 1), i64w ((i64w (2 * v18)) - (i64w (t1 + t6))), i64w (v19 + 1), H12, rfl, hm1, le13, hO.pick _ trivial, f5_1, f6_1, rfl, rfl, rfl⟩
    ·intro hb21 hm1
     refine skip (region (val (x_move (.int .i64 v19) f9_1) ?_))
     refine val (x_add rfl rfl) ?_
     refine val (x_assign (.int .i64 (i64w (v19 + 1))) rfl) ?_
     refine nil ?_
     exact ⟨_, Nat.lt_succ_self _, rest15, i64w (2 * v17), i64w (2 * v18), i64w (v19 + 1), H12, rfl, hm1, le13, hO.pick _ trivial, f5_1, f6_1, rfl, rfl, rfl⟩
   ·intro hb20 hm1
    refine W.exit _ rfl ?_
    obtain rfl := sj hm1
    exact ⟨v17, v18, v19, H12, rfl, le13, hO.pick _ trivial, f7_1⟩
 ·intro r w
  rintro ⟨v24, v25, v26, H22, rfl, le23, hO, f28⟩
  dsimp only at hm0
  refine seq (region (val (x_move (.int .i64 v24) f28) ?_))
  refine val (x_assign (.int .i64 v24) rfl) ?_
  refine nil (W.ret ?_)
  obtain rfl := sj hm0
  exact ⟨H22, rfl, hO.done⟩
theorem switchboardref13_Choose_ok {w0 : World} {H0 : IHeap} (hS : Sub H0 w0) {p0 : List (List Int)} {p1 : List Int}  {A1_ : Option Addr} {c1_ : Nat} {A2_ : Option Addr} {c2_ : Nat} (h1_ : RS (eSl (eInt .i64)) H0 A1_ c1_ p0) (h2_ : RS (eInt .i64) H0 A2_ c2_ p1) {res : GateChoice × Bool} (hm0 : switchboardref13_Choose p0 p1 = some res) :
  Ok prog 42 [(.slice A1_ p0.length c1_), (.slice A2_ p1.length c2_)].toArray w0 H0 (fun H' v => v = (.tuple #[(.agg #[(.int .i64 res.1.First), (.int .i64 res.1.Second), (.int .i64 res.1.W1), (.int .i64 res.1.W2)]), (.bool res.2)])) := by
 unfold switchboardref13_Choose at hm0
 refine OkO.ok (okO_of_W Tryz.func42 rfl Tryz.ntmps42 (rs := [.cell 4 96, .tmp 5]) rfl rfl ?_)
 have hO := St.start hS
 refine seq (region (o_alloc 0 _ [(.int .i64 0), (.int .i64 0), (.int .i64 0), (.int .i64 0)] zer96 hO rfl ?_))
 intro g1 w2 hO
 refine val (x_assign (.bool false) rfl) ?_
 refine nil (seq (region (val (x_move (.slice A1_ p0.length c1_) rfl) ?_)))
 refine val (x_move (.slice A2_ p1.length c2_) rfl) ?_
 obtain ⟨t3, ht4, hm0⟩ := bindSome hm0
 refine o_call hO go84 (switchboardref03_Apply_ok hO.sub h1_ h2_ ht4) rfl ?_
 rintro _ H5 w6 le7 ⟨A8, c9, rfl, h10⟩ hO
 refine val (x_move (.tuple #[(.slice A8 t3.1.length c9), (.bool t3.2)]) rfl) ?_
 refine val (x_extract (.slice A8 t3.1.length c9) rfl rfl) ?_
 refine val (x_extract (.bool t3.2) rfl rfl) ?_
 refine val (x_assign (.slice A8 t3.1.length c9) rfl) ?_
 refine val (x_assign (.bool t3.2) rfl) ?_
 refine nil (seq (seq (region (val (x_move (.bool t3.2) rfl) ?_))))
 refine val (x_not rfl) ?_
 refine val (x_move (.bool (!t3.2)) rfl) ?_
 refine gval rfl rfl (fun hb => x_move (.slice A8 t3.1.length c9) rfl) ?_
 refine gval rfl rfl (fun hb => x_len (gv hb) underlying61) ?_
 refine gval rfl rfl (fun hb => x_eql (gv hb) rfl) ?_
 refine val (x_pick rfl (.bool ((!t3.2) || ((t3.1.length : Int) == 0))) pick_or) ?_
 refine nil (test rfl hm0 ?_ ?_)
 ·intro hb11 hm0
  refine seq (region (val (x_build [] [(.int .i64 0), (.int .i64 0), (.int .i64 0), (.int .i64 0)] trivial (by kernel_rfl)) ?_))
  refine o_sts 0 [(.int .i64 0), (.int .i64 0), (.int .i64 0), (.int .i64 0)] hO rfl rfl rfl siz96 rfl (Nat.le_of_ble_eq_true rfl) (by simp [Value.oneCell', vs]) ?_
  intro w12 hO
  refine val (x_assign (.bool false) rfl) ?_
  refine nil (W.ret ?_)
  obtain rfl := sj hm0
  exact ⟨[(.agg #[(.int .i64 0), (.int .i64 0), (.int .i64 0), (.int .i64 0)]), (.bool false)], ⟨⟨_, rfl, hO.ldBlk 0 rfl agg96 rfl rfl⟩, rfl, trivial⟩, H5, _, rfl, hO⟩
 ·intro hb11 hm0
  refine skip (seq (region (val (x_move (.slice A8 t3.1.length c9) rfl) ?_)))
  obtain ⟨t13, ht14, hm0⟩ := bindSome hm0
  refine o_call hO go85 (switchboardref04_Of_ok hO.sub h10 ht14) rfl ?_
  rintro _ H15 w16 le17 rfl hO
  refine val (x_move (.slice A8 t3.1.length c9) rfl) ?_
  obtain ⟨t18, ht19, hm0⟩ := bindSome hm0
  refine o_call hO go85 (switchboardref04_Of_ok hO.sub (h10.up le17) ht19) rfl ?_
  rintro _ H20 w21 le22 rfl hO
  refine val (x_assign (.int .i64 t13) rfl) ?_
  refine val (x_assign (.int .i64 t18) rfl) ?_
  refine nil (seq (region (val (x_assign (.int .i64 65536) rfl) ?_)))
  refine nil (seq (seq (region (val (x_move (.int .i64 t18) rfl) ?_))))
  refine val (x_geq rfl rfl) ?_
  refine nil (test rfl hm0 ?_ ?_)
  ·intro hb23 hm0
   have hO := hO.pick [(0, .blk g1 [(.int .i64 0), (.int .i64 0), (.int .i64 0), (.int .i64 0)] 96)] ⟨rfl, trivial⟩
   refine W.draw (SD w0 H0 [] H20 [(0, .blk g1 [(.int .i64 0), (.int .i64 0), (.int .i64 0), (.int .i64 0)] 96)]) (fun i => ([] : List Nat).contains i) mixed 10 rfl _ rfl ?_
   intro w24 hh1 hh2 hh3 hh4; have hO := hO.same hh1 hh2 hh3 hh4; clear hh1 hh2 hh3 hh4
   have hS : SD w0 H0 [] H20 [(0, .blk g1 [(.int .i64 0), (.int .i64 0), (.int .i64 0), (.int .i64 0)] 96)] w24 := ⟨_, _, Le.refl _, hO, ⟨rfl, trivial⟩⟩
   refine take (i := 0) rfl (by kernel_rfl) (fun w hS => x_move (.slice A8 t3.1.length c9) rfl) hS ?_
   refine take (i := 1) rfl (by kernel_rfl) (fun w hS => x_move (.int .i64 t13) rfl) hS ?_
   obtain ⟨hin28, hm0⟩ := chk hm0
   obtain ⟨a25, h26, hA27⟩ := RS.at_ (h10.up (le17.trans le22)) hin28
   refine take (i := 2) rfl (by kernel_rfl) (fun w hS => x_ia (sA rfl hA27) rfl sle61 hin28) hS ?_
   refine take (i := 3) rfl (by kernel_rfl) (fun w hS => x_ldc rfl (h26.int _ hS.sub) one3) hS ?_
   refine take (i := 4) rfl (by kernel_rfl) (fun w hS => x_move (.slice A8 t3.1.length c9) rfl) hS ?_
   refine take (i := 5) rfl (by kernel_rfl) (fun w hS => x_move (.int .i64 t18) rfl) hS ?_
   obtain ⟨hin32, hm0⟩ := chk hm0
   obtain ⟨a29, h30, hA31⟩ := RS.at_ (h10.up (le17.trans le22)) hin32
   refine take (i := 6) rfl (by kernel_rfl) (fun w hS => x_ia (sA rfl hA31) rfl sle61 hin32) hS ?_
   refine take (i := 7) rfl (by kernel_rfl) (fun w hS => x_ldc rfl (h30.int _ hS.sub) one3) hS ?_
   refine WA.only (i := 8) (by kernel_rfl) rfl ?_
   obtain ⟨t33, ht34, hm0⟩ := bindSome hm0
   refine o_call hO go86 (switchboardref05_Share_ok hO.sub  ht34) rfl ?_
   rintro _ H35 w36 le37 rfl hO
   have hS : SD w0 H0 [] H20 [(0, .blk g1 [(.int .i64 0), (.int .i64 0), (.int .i64 0), (.int .i64 0)] 96)] _ := ⟨_, _, le37, hO, ⟨rfl, trivial⟩⟩
   refine nil ⟨fun _ => hS, ?_⟩
   refine take (i := 9) rfl (by kernel_rfl) (fun w hS => x_assign (.int .i64 t33) rfl) hS ?_
   refine WA.done (by kernel_rfl) ?_
   refine seq (region (val (x_move (.int .i64 t13) rfl) ?_))
   refine val (x_move (.int .i64 t18) rfl) ?_
   refine val (x_move (.int .i64 t33) rfl) ?_
   refine val (x_move (.int .i64 t33) rfl) ?_
   refine val (x_sub rfl rfl) ?_
   refine val (x_build [(0, (.int .i64 t13)), (1, (.int .i64 t18)), (2, (.int .i64 t33)), (3, (.int .i64 (i64w (65536 - t33))))] [(.int .i64 t13), (.int .i64 t18), (.int .i64 t33), (.int .i64 (i64w (65536 - t33)))] ⟨rfl, rfl, rfl, rfl, rfl, rfl, rfl, rfl, trivial⟩ (by kernel_rfl)) ?_
   refine o_sts 0 [(.int .i64 t13), (.int .i64 t18), (.int .i64 t33), (.int .i64 (i64w (65536 - t33)))] hO rfl rfl rfl siz96 rfl (Nat.le_of_ble_eq_true rfl) (by simp [Value.oneCell', vs]) ?_
   intro w38 hO
   refine val (x_assign (.bool true) rfl) ?_
   refine nil (W.ret ?_)
   obtain rfl := sj hm0
   exact ⟨[(.agg #[(.int .i64 t13), (.int .i64 t18), (.int .i64 t33), (.int .i64 (i64w (65536 - t33)))]), (.bool true)], ⟨⟨_, rfl, hO.ldBlk 0 rfl agg96 rfl rfl⟩, rfl, trivial⟩, H35, _, rfl, hO⟩
  ·intro hb23 hm0
   refine skip (seq (region (val (x_move (.int .i64 t13) rfl) ?_)))
   refine val (x_move (.int .i64 t18) rfl) ?_
   refine val (x_move (.int .i64 65536) rfl) ?_
   refine val (x_move (.int .i64 65536) rfl) ?_
   refine val (x_sub rfl rfl) ?_
   refine val (x_build [(0, (.int .i64 t13)), (1, (.int .i64 t18)), (2, (.int .i64 65536)), (3, (.int .i64 (i64w (65536 - 65536))))] [(.int .i64 t13), (.int .i64 t18), (.int .i64 65536), (.int .i64 (i64w (65536 - 65536)))] ⟨rfl, rfl, rfl, rfl, rfl, rfl, rfl, rfl, trivial⟩ (by kernel_rfl)) ?_
   refine o_sts 0 [(.int .i64 t13), (.int .i64 t18), (.int .i64 65536), (.int .i64 (i64w (65536 - 65536)))] hO rfl rfl rfl siz96 rfl (Nat.le_of_ble_eq_true rfl) (by simp [Value.oneCell', vs]) ?_
   intro w39 hO
   refine val (x_assign (.bool true) rfl) ?_
   refine nil (W.ret ?_)
   obtain rfl := sj hm0
   exact ⟨[(.agg #[(.int .i64 t13), (.int .i64 t18), (.int .i64 65536), (.int .i64 (i64w (65536 - 65536)))]), (.bool true)], ⟨⟨_, rfl, hO.ldBlk 0 rfl agg96 rfl rfl⟩, rfl, trivial⟩, H20, _, rfl, hO⟩
theorem switchboardref14_ahead_ok {w0 : World} {H0 : IHeap} (hS : Sub H0 w0) {p0 : List (List Int)} {p1 : Int} {p2 : Int} {p3 : Int}  {A1_ : Option Addr} {c1_ : Nat} (h1_ : RS (eArr 2 (eInt .i64)) H0 A1_ c1_ p0) {res : Int} (hm0 : switchboardref14_ahead p0 p1 p2 p3 = some res) :
  Ok prog 87 [(.slice A1_ p0.length c1_), (.int .i64 p1), (.int .i64 p2), (.int .i64 p3)].toArray w0 H0 (fun H' v => v = (.int .i64 res)) := by
 unfold switchboardref14_ahead at hm0
 refine ok_of_W Tryz.func87 rfl Tryz.ntmps87 (ts := [8]) rfl rfl rfl ?_
 have hO := St.start hS
 refine seq (region (val (x_assign (.int .i64 0) rfl) ?_))
 refine nil (seq (region (val (x_assign (.int .i64 0) rfl) ?_)))
 refine nil (seq (seq (region (val (x_assign (.int .i64 0) rfl) ?_))))
 refine nil ?_
 obtain ⟨o1, hm1, hm0⟩ := bindSome hm0
 have hO := hO.pick [] trivial
 refine W.blockLoop (fun r w => ∃ (v7 : Int) (v8 : Int) (H2 : IHeap), (v7, v8) = o1 ∧ Le H0 H2 ∧ St w0 H0 [] H2 (ol []) w ∧ r 9 = (.int .i64 v7)) (fun k r w => ∃ (rest5 : Nat) (v7 : Int) (v8 : Int) (H2 : IHeap), rest5 = k ∧ switchboardref14_ahead_l1 p0 p1 p2 p3 rest5 v7 v8 = some o1 ∧ Le H0 H2 ∧ St w0 H0 [] H2 (ol []) w ∧ r 0 = (.slice A1_ p0.length c1_) ∧ r 1 = (.int .i64 p1) ∧ r 2 = (.int .i64 p2) ∧ r 3 = (.int .i64 p3) ∧ r 9 = (.int .i64 v7) ∧ r 10 = (.int .i64 v8)) FUEL ?_ ?_ ?_
 ·exact ⟨_, 0, 0, _, rfl, hm1, Le.refl _, hO, rfl, rfl, rfl, rfl, rfl, rfl⟩
 ·
  intro k r w
  rintro ⟨rest5, v7, v8, H2, rfl, hm1, le3, hO, f0_1, f1_1, f2_1, f3_1, f9_1, f10_1⟩
  cases rest5 with
  | zero => rw [switchboardref14_ahead_l1] at hm1; cases hm1
  | succ rest5 =>
   rw [switchboardref14_ahead_l1] at hm1
   refine seq (seq (region (val (x_move (.int .i64 v8) f10_1) ?_)))
   refine val (x_move (.int .i64 p1) f1_1) ?_
   refine val (x_leq rfl rfl) ?_
   refine nil (test rfl hm1 ?_ ?_)
   ·intro hb9 hm1
    refine skip (seq (W.block ?_))
    refine seq (region (val (x_assign (.int .i64 0) rfl) ?_))
    refine nil ?_
    obtain ⟨o10, hm2, hm1⟩ := bindSome hm1
    have hO := hO.pick [] trivial
    refine W.blockLoop (fun r w => ∃ (v16 : Int) (v17 : Int) (H11 : IHeap), (v16, v17) = o10 ∧ Le H2 H11 ∧ St w0 H0 [] H11 (ol []) w ∧ r 0 = (.slice A1_ p0.length c1_) ∧ r 1 = (.int .i64 p1) ∧ r 2 = (.int .i64 p2) ∧ r 3 = (.int .i64 p3) ∧ r 9 = (.int .i64 v16) ∧ r 10 = (.int .i64 v8)) (fun k r w => ∃ (rest14 : Nat) (v16 : Int) (v17 : Int) (H11 : IHeap), rest14 = k ∧ switchboardref14_ahead_l2 p0 p1 p2 p3 v8 rest14 v16 v17 = some o10 ∧ Le H2 H11 ∧ St w0 H0 [] H11 (ol []) w ∧ r 0 = (.slice A1_ p0.length c1_) ∧ r 1 = (.int .i64 p1) ∧ r 2 = (.int .i64 p2) ∧ r 3 = (.int .i64 p3) ∧ r 9 = (.int .i64 v16) ∧ r 10 = (.int .i64 v8) ∧ r 11 = (.int .i64 v17)) FUEL ?_ ?_ ?_
    ·exact ⟨_, v7, 0, _, rfl, hm2, Le.refl _, hO, f0_1, f1_1, f2_1, f3_1, f9_1, f10_1, rfl⟩
    ·
     intro k r w
     rintro ⟨rest14, v16, v17, H11, rfl, hm2, le12, hO, f0_2, f1_2, f2_2, f3_2, f9_2, f10_2, f11_2⟩
     cases rest14 with
     | zero => rw [switchboardref14_ahead_l2] at hm2; cases hm2
     | succ rest14 =>
      rw [switchboardref14_ahead_l2] at hm2
      refine seq (seq (region (val (x_move (.int .i64 v17) f11_2) ?_)))
      refine val (x_lss rfl rfl) ?_
      refine nil (test rfl hm2 ?_ ?_)
      ·intro hb18 hm2
       refine skip (seq (W.block ?_))
       refine seq (region (val (x_move (.slice A1_ p0.length c1_) f0_2) ?_))
       refine val (x_move (.int .i64 v8) f10_2) ?_
       refine val (x_move (.int .i64 v17) f11_2) ?_
       obtain ⟨hin22, hm2⟩ := chk hm2
       obtain ⟨a19, h20, hA21⟩ := RS.at_ (h1_.up (le3.trans le12)) hin22
       refine val (x_ia (sA rfl hA21) rfl sle94 hin22) ?_
       obtain ⟨hin23, hm2⟩ := chk hm2
       refine val (x_iaAt rfl h20 rfl are99 hin23) ?_
       refine val (x_ldc rfl ((h20.part (lens_idx (n := 2) (eInt .i64) hin23).part).int _ hO.sub) one3) ?_
       refine val (x_move (.int .i64 p3) f3_2) ?_
       refine val (x_eql rfl rfl) ?_
       refine val (x_move (.bool ((at0 (at0 p0 v8) v17) == p3)) rfl) ?_
       refine gval rfl rfl (fun hb => x_move (.int .i64 v8) f10_2) ?_
       refine gval rfl rfl (fun hb => x_move (.int .i64 p1) f1_2) ?_
       refine gval rfl rfl (fun hb => x_lss (gv hb) (gv hb)) ?_
       refine gval rfl rfl (fun hb => x_move (.bool (decide (v8 < p1))) (gv hb)) ?_
       rcases btest hm2 with ⟨hb24, hm2⟩ | ⟨hb24, hm2⟩
       ·refine gval rfl (by exact gkT hb24) (fun hb => x_move (.int .i64 v17) f11_2) ?_
        refine gval rfl (by exact gkT hb24) (fun hb => x_move (.int .i64 p2) f2_2) ?_
        refine gval rfl (by exact gkT hb24) (fun hb => x_lss (gv hb) (gv hb)) ?_
        refine yes rfl (kb rfl hb24) ?_
        refine val (x_pick (by exact gkT hb24) (.bool ((decide (v8 < p1)) || (decide (v17 < p2)))) pick_or) ?_
        refine val (x_pick_t (kb rfl hb24) (.bool ((decide (v8 < p1)) || (decide (v17 < p2)))) rfl) ?_
        refine nil (test rfl hm2 ?_ ?_)
        ·intro hb25 hm2
         refine region (val (x_move (.int .i64 v16) f9_2) ?_)
         refine val (x_add rfl rfl) ?_
         refine val (x_assign (.int .i64 (i64w (v16 + 1))) rfl) ?_
         refine nil (region (val (x_move (.int .i64 v17) f11_2) ?_))
         refine val (x_add rfl rfl) ?_
         refine val (x_assign (.int .i64 (i64w (v17 + 1))) rfl) ?_
         refine nil ?_
         exact ⟨_, Nat.lt_succ_self _, rest14, i64w (v16 + 1), i64w (v17 + 1), H11, rfl, hm2, le12, hO.pick _ trivial, f0_2, f1_2, f2_2, f3_2, rfl, f10_2, rfl⟩
        ·intro hb25 hm2
         refine skip (region (val (x_move (.int .i64 v17) f11_2) ?_))
         refine val (x_add rfl rfl) ?_
         refine val (x_assign (.int .i64 (i64w (v17 + 1))) rfl) ?_
         refine nil ?_
         exact ⟨_, Nat.lt_succ_self _, rest14, v16, i64w (v17 + 1), H11, rfl, hm2, le12, hO.pick _ trivial, f0_2, f1_2, f2_2, f3_2, f9_2, f10_2, rfl⟩
       ·refine WL.nou rfl (by exact gnF hb24) ?_
        refine WL.nou rfl (by exact gnF hb24) ?_
        refine WL.nou rfl (by exact gnF hb24) ?_
        refine no rfl (kb rfl hb24) rfl ?_
        refine val (x_pick_f (kb rfl hb24) (.bool false) rfl) ?_
        refine nil (W.cond_f rfl ?_)
        refine skip (region (val (x_move (.int .i64 v17) f11_2) ?_))
        refine val (x_add rfl rfl) ?_
        refine val (x_assign (.int .i64 (i64w (v17 + 1))) rfl) ?_
        refine nil ?_
        exact ⟨_, Nat.lt_succ_self _, rest14, v16, i64w (v17 + 1), H11, rfl, hm2, le12, hO.pick _ trivial, f0_2, f1_2, f2_2, f3_2, f9_2, f10_2, rfl⟩
      ·intro hb18 hm2
       refine W.exit _ rfl ?_
       obtain rfl := sj hm2
       exact ⟨v16, v17, H11, rfl, le12, hO.pick _ trivial, f0_2, f1_2, f2_2, f3_2, f9_2, f10_2⟩
    ·intro r w
     rintro ⟨v28, v29, H26, rfl, le27, hO, f31, f32, f33, f34, f35, f36⟩
     dsimp only at hm1
     refine region (val (x_move (.int .i64 v8) f36) ?_)
     refine val (x_add rfl rfl) ?_
     refine val (x_assign (.int .i64 (i64w (v8 + 1))) rfl) ?_
     refine nil ?_
     exact ⟨_, Nat.lt_succ_self _, rest5, v28, i64w (v8 + 1), H26, rfl, hm1, (le3.trans le27), hO.pick _ trivial, f31, f32, f33, f34, f35, rfl⟩
   ·intro hb9 hm1
    refine W.exit _ rfl ?_
    obtain rfl := sj hm1
    exact ⟨v7, v8, H2, rfl, le3, hO.pick _ trivial, f9_1⟩
 ·intro r w
  rintro ⟨v39, v40, H37, rfl, le38, hO, f42⟩
  dsimp only at hm0
  refine seq (region (val (x_move (.int .i64 v39) f42) ?_))
  refine val (x_assign (.int .i64 v39) rfl) ?_
  refine nil (W.ret ?_)
  obtain rfl := sj hm0
  exact ⟨H37, rfl, hO.done⟩
end Go.Sw

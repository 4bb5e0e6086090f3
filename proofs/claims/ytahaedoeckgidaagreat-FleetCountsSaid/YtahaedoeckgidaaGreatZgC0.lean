/- The calls compute the mirrors. -/
import Derived.Test.YtahaedoeckgidaaGreatZgF
set_option linter.unusedVariables false
set_option linter.unusedSimpArgs false
set_option maxRecDepth 100000
namespace Go.Sw
open WL (val nil gval yes no)
open W (region test seq skip)
open WA (take)
open Go.Proofs.Tryz
open Go.Proofs
theorem switchboardref03_Small_ok {w0 : World} {H0 : IHeap} (hS : Sub H0 w0) {p0 : List (List Int)}  {A1_ : Option Addr} {c1_ : Nat} (h1_ : RS (eSl (eInt .i64)) H0 A1_ c1_ p0) {res : Bool} (hm0 : switchboardref03_Small p0 = some res) :
  Ok prog 8 [(.slice A1_ p0.length c1_)].toArray w0 H0 (fun H' v => v = (.bool res)) := by
 unfold switchboardref03_Small at hm0
 refine ok_of_W Tryz.func8 rfl Tryz.ntmps8 (ts := [2]) rfl rfl rfl ?_
 have hO := St.start hS
 refine seq (region (val (x_assign (.bool false) rfl) ?_))
 refine nil (seq (seq (region (val (x_assign (.int .i64 0) rfl) ?_))))
 refine nil ?_
 obtain ⟨o1, hm1, hm0⟩ := bindSome hm0
 have hO := hO.pick [] trivial
 refine W.blockLoop (fun r w => ∃ (v7 : Int) (H2 : IHeap), .out v7 = o1 ∧ Le H0 H2 ∧ St w0 H0 [] H2 (ol []) w ∧ r 0 = (.slice A1_ p0.length c1_)) (fun k r w => ∃ (rest5 : Nat) (v7 : Int) (H2 : IHeap), rest5 = k ∧ switchboardref03_Small_l1 p0 rest5 v7 = some o1 ∧ Le H0 H2 ∧ St w0 H0 [] H2 (ol []) w ∧ r 0 = (.slice A1_ p0.length c1_) ∧ r 3 = (.int .i64 v7)) FUEL ?_ ?_ ?_
 ·exact ⟨_, 0, _, rfl, hm1, Le.refl _, hO, rfl, rfl⟩
 ·
  intro k r w
  rintro ⟨rest5, v7, H2, rfl, hm1, le3, hO, f0_1, f3_1⟩
  cases rest5 with
  | zero => rw [switchboardref03_Small_l1] at hm1; cases hm1
  | succ rest5 =>
   rw [switchboardref03_Small_l1] at hm1
   refine seq (seq (region (val (x_move (.int .i64 v7) f3_1) ?_)))
   refine val (x_move (.slice A1_ p0.length c1_) f0_1) ?_
   refine val (x_len rfl underlying25) ?_
   refine val (x_lss rfl rfl) ?_
   refine val (x_move (.bool (decide (v7 < (p0.length : Int)))) rfl) ?_
   refine gval rfl rfl (fun hb => x_move (.int .i64 v7) f3_1) ?_
   refine gval rfl rfl (fun hb => x_lss (gv hb) rfl) ?_
   refine val (x_pick rfl (.bool ((decide (v7 < (p0.length : Int))) && (decide (v7 < 30)))) pick_and) ?_
   refine nil (test rfl hm1 ?_ ?_)
   ·intro hb8 hm1
    refine skip (seq (W.block ?_))
    refine seq (region (val (x_move (.slice A1_ p0.length c1_) f0_1) ?_))
    refine val (x_move (.int .i64 v7) f3_1) ?_
    obtain ⟨hin12, hm1⟩ := chk hm1
    obtain ⟨a9, h10, hA11⟩ := RS.at_ (h1_.up le3) hin12
    refine val (x_ia (sA rfl hA11) rfl sle25 hin12) ?_
    obtain ⟨A13, c14, h15, hc16⟩ := At.sl h10
    refine val (x_ldc rfl (hc16 _ hO.sub) one61) ?_
    refine val (x_len rfl underlying61) ?_
    refine val (x_gtr rfl rfl) ?_
    refine nil (test rfl hm1 ?_ ?_)
    ·intro hb17 hm1
     refine seq (region (val (x_assign (.bool false) rfl) ?_))
     refine nil (W.ret ?_)
     obtain rfl := sj hm1
     dsimp only at hm0
     obtain rfl := sj hm0
     exact ⟨H2, rfl, hO.done⟩
    ·intro hb17 hm1
     refine skip (region (val (x_move (.int .i64 v7) f3_1) ?_))
     refine val (x_add rfl rfl) ?_
     refine val (x_assign (.int .i64 (i64w (v7 + 1))) rfl) ?_
     refine nil ?_
     exact ⟨_, Nat.lt_succ_self _, rest5, i64w (v7 + 1), H2, rfl, hm1, le3, hO.pick _ trivial, f0_1, rfl⟩
   ·intro hb8 hm1
    refine W.exit _ rfl ?_
    obtain rfl := sj hm1
    exact ⟨v7, H2, rfl, le3, hO.pick _ trivial, f0_1⟩
 ·intro r w
  rintro ⟨v20, H18, rfl, le19, hO, f22⟩
  dsimp only at hm0
  refine seq (region (val (x_move (.slice A1_ p0.length c1_) f22) ?_))
  refine val (x_len rfl underlying25) ?_
  refine val (x_leq rfl rfl) ?_
  refine val (x_assign (.bool (decide ((p0.length : Int) ≤ 30))) rfl) ?_
  refine nil (W.ret ?_)
  obtain rfl := sj hm0
  exact ⟨H18, rfl, hO.done⟩
theorem switchboardref15_Small_ok {w0 : World} {H0 : IHeap} (hS : Sub H0 w0) {p0 : ApiModel}  {A1_ : Option Addr} {c1_ : Nat} (h1_ : RS eApiLayer H0 A1_ c1_ p0.Layers) {res : Bool} (hm0 : switchboardref15_Small p0 = some res) :
  Ok prog 7 [(.agg #[(.int .i64 p0.Dim), (.slice A1_ p0.Layers.length c1_)])].toArray w0 H0 (fun H' v => v = (.bool res)) := by
 unfold switchboardref15_Small at hm0
 refine ok_of_W Tryz.func7 rfl Tryz.ntmps7 (ts := [2]) rfl rfl rfl ?_
 have hO := St.start hS
 refine seq (region (o_box 0 [(.int .i64 p0.Dim), (.slice A1_ p0.Layers.length c1_)] hO rfl ?_))
 intro g1 w2 hO
 refine val (x_assign (.bool false) rfl) ?_
 refine nil (seq (seq (region (val (x_fa rfl fo24_1) ?_))))
 refine val (x_ld 0 (.slice A1_ p0.Layers.length c1_) hO rfl rfl rfl one22) ?_
 refine val (x_len rfl underlying22) ?_
 refine val (x_gtr rfl rfl) ?_
 refine nil (test rfl hm0 ?_ ?_)
 ·intro hb3 hm0
  refine seq (region (val (x_assign (.bool false) rfl) ?_))
  refine nil (W.ret ?_)
  obtain rfl := sj hm0
  exact ⟨H0, rfl, hO.done⟩
 ·intro hb3 hm0
  refine skip (seq (seq (region (val (x_fa rfl fo24_1) ?_))))
  refine val (x_ld 0 (.slice A1_ p0.Layers.length c1_) hO rfl rfl rfl one22) ?_
  refine val (x_len rfl underlying22) ?_
  refine val (x_move (.int .i64 0) rfl) ?_
  refine nil ?_
  obtain ⟨o4, hm1, hm0⟩ := bindSome hm0
  have hO := hO.pick [] trivial
  refine W.blockLoop (fun r w => ∃ (i7 : Nat) (H5 : IHeap), .out () = o4 ∧ Le H0 H5 ∧ St w0 H0 [] H5 (ol []) w) (fun k r w => ∃ (i7 : Nat) (rest8 : List ApiLayer) (H5 : IHeap), k = rest8.length ∧ List.drop i7 p0.Layers = rest8 ∧ switchboardref15_Small_l1 rest8 i7 = some o4 ∧ Le H0 H5 ∧ St w0 H0 [] H5 (ol []) w ∧ r 12 = (.slice A1_ p0.Layers.length c1_) ∧ r 13 = (.int .i64 (p0.Layers.length : Int)) ∧ r 14 = (.int .i64 (i7 : Int))) (List.length p0.Layers) ?_ ?_ ?_
  ·exact ⟨0, _, _, rfl, rfl, hm1, Le.refl _, hO, rfl, rfl, rfl⟩
  ·
   intro k r w
   rintro ⟨i7, rest8, H5, rfl, hd10, hm1, le6, hO, f12_1, f13_1, f14_1⟩
   cases rest8 with
   | nil =>
    rw [switchboardref15_Small_l1] at hm1
    have hlt := drop_nil hd10
    refine seq (region (val (x_lss f14_1 f13_1) ?_))
    refine nil (seq (W.cond_f (kb rfl hlt) ?_))
    refine W.exit _ rfl ?_
    obtain rfl := sj hm1
    exact ⟨i7, H5, rfl, le6, hO.pick _ trivial⟩
   | cons x9 rest8 =>
    rw [switchboardref15_Small_l1] at hm1
    have hlt := drop_lt hd10
    have hnx := drop_next hd10
    have hinc := inc_len hlt h1_.1 h1_.2.1
    refine seq (region (val (x_lss f14_1 f13_1) ?_))
    refine nil (seq (W.cond_t (kb rfl hlt) ?_))
    refine skip (seq (W.block ?_))
    refine seq (region ?_)
    obtain ⟨a11, h12, hA13, hin⟩ := RS.atR (h1_.up le6) hd10
    refine val (x_ia (sA f12_1 hA13) f14_1 sle22 hin) ?_
    obtain ⟨cs14, hr15, hc16⟩ := At.agg h12
    obtain ⟨A17, c18, A20, c21, rfl, h19, h22⟩ := hr15
    refine val (x_ldv rfl (hc16 _ _ _ hO.sub agg41)) ?_
    refine o_alloc 1 _ [(.slice none 0 0), (.slice none 0 0), (.int .i64 0)] zer41 hO rfl ?_
    intro g23 w24 hO
    refine o_sts 1 [(.slice A17 x9.Gate.length c18), (.slice A20 x9.Experts.length c21), (.int .i64 x9.Capacity)] hO rfl rfl rfl siz41 rfl (Nat.le_of_ble_eq_true rfl) (by simp [Value.oneCell', vs]) ?_
    intro w25 hO
    refine nil (seq (seq (region (val (x_fa rfl fo41_1) ?_))))
    refine val (x_ld 1 (.slice A20 x9.Experts.length c21) hO rfl rfl rfl one39) ?_
    refine val (x_len rfl underlying39) ?_
    refine val (x_gtr rfl rfl) ?_
    refine val (x_move (.bool (decide (9 < (x9.Experts.length : Int)))) rfl) ?_
    refine gval rfl rfl (fun hb => x_fa rfl fo41_0) ?_
    refine gval rfl rfl (fun hb => x_ld 1 (.slice A17 x9.Gate.length c18) hO rfl (gv hb) rfl one25) ?_
    rcases btest hm1 with ⟨hb26, hm1⟩ | ⟨hb26, hm1⟩
    ·refine no rfl (kb rfl hb26) rfl ?_
     refine no rfl (kb rfl hb26) rfl ?_
     refine val (x_pick_t (kb rfl hb26) (.bool true) rfl) ?_
     refine nil (W.cond_t rfl ?_)
     refine seq (region (val (x_assign (.bool false) rfl) ?_))
     refine nil (W.ret ?_)
     obtain rfl := sj hm1
     dsimp only at hm0
     obtain rfl := sj hm0
     exact ⟨H5, rfl, hO.done⟩
    ·refine yes rfl (kb rfl hb26) ?_
     obtain ⟨t27, ht28, hm1⟩ := bindSome hm1
     refine o_call hO go8 (switchboardref03_Small_ok hO.sub h19 ht28) (args1 (by exact gkF hb26)) ?_
     rintro _ H29 w30 le31 rfl hO
     refine yes rfl (kb rfl hb26) ?_
     refine val (x_not rfl) ?_
     refine val (x_pick_f (kb rfl hb26) (.bool (!t27)) rfl) ?_
     refine nil (test rfl hm1 ?_ ?_)
     ·intro hb32 hm1
      refine seq (region (val (x_assign (.bool false) rfl) ?_))
      refine nil (W.ret ?_)
      obtain rfl := sj hm1
      dsimp only at hm0
      obtain rfl := sj hm0
      exact ⟨H29, rfl, hO.done⟩
     ·intro hb32 hm1
      refine skip (seq (region (val (x_fa rfl fo41_1) ?_)))
      refine val (x_ld 1 (.slice A20 x9.Experts.length c21) hO rfl rfl rfl one39) ?_
      refine val (x_len rfl underlying39) ?_
      refine val (x_move (.int .i64 0) rfl) ?_
      refine nil ?_
      obtain ⟨o33, hm2, hm1⟩ := bindSome hm1
      have hO := hO.pick [(1, .blk g23 [(.slice A17 x9.Gate.length c18), (.slice A20 x9.Experts.length c21), (.int .i64 x9.Capacity)] 41)] ⟨rfl, trivial⟩
      refine W.blockLoop (fun r w => ∃ (i36 : Nat) (H34 : IHeap), .out () = o33 ∧ Le H29 H34 ∧ St w0 H0 [] H34 (ol [(1, .blk g23 [(.slice A17 x9.Gate.length c18), (.slice A20 x9.Experts.length c21), (.int .i64 x9.Capacity)] 41)]) w ∧ r 12 = (.slice A1_ p0.Layers.length c1_) ∧ r 13 = (.int .i64 (p0.Layers.length : Int)) ∧ r 14 = (.int .i64 (i7 : Int)) ∧ r 23 = (.pointer (some ⟨g23, 0, none⟩)) ∧ r 24 = (.slice A17 x9.Gate.length c18) ∧ r 25 = (.bool t27) ∧ r 26 = (.bool (!t27))) (fun k r w => ∃ (i36 : Nat) (rest37 : List ApiExpert) (H34 : IHeap), k = rest37.length ∧ List.drop i36 x9.Experts = rest37 ∧ switchboardref15_Small_l2 rest37 i36 = some o33 ∧ Le H29 H34 ∧ St w0 H0 [] H34 (ol [(1, .blk g23 [(.slice A17 x9.Gate.length c18), (.slice A20 x9.Experts.length c21), (.int .i64 x9.Capacity)] 41)]) w ∧ r 12 = (.slice A1_ p0.Layers.length c1_) ∧ r 13 = (.int .i64 (p0.Layers.length : Int)) ∧ r 14 = (.int .i64 (i7 : Int)) ∧ r 23 = (.pointer (some ⟨g23, 0, none⟩)) ∧ r 24 = (.slice A17 x9.Gate.length c18) ∧ r 25 = (.bool t27) ∧ r 26 = (.bool (!t27)) ∧ r 29 = (.slice A20 x9.Experts.length c21) ∧ r 30 = (.int .i64 (x9.Experts.length : Int)) ∧ r 31 = (.int .i64 (i36 : Int))) (List.length x9.Experts) ?_ ?_ ?_
      ·exact ⟨0, _, _, rfl, rfl, hm2, Le.refl _, hO, f12_1, f13_1, f14_1, (by exact gkF hb26), (by exact gkF hb26), rfl, rfl, rfl, rfl, rfl⟩
      ·
       intro k r w
       rintro ⟨i36, rest37, H34, rfl, hd39, hm2, le35, hO, f12_2, f13_2, f14_2, f23_2, f24_2, f25_2, f26_2, f29_2, f30_2, f31_2⟩
       cases rest37 with
       | nil =>
        rw [switchboardref15_Small_l2] at hm2
        have hlt := drop_nil hd39
        refine seq (region (val (x_lss f31_2 f30_2) ?_))
        refine nil (seq (W.cond_f (kb rfl hlt) ?_))
        refine W.exit _ rfl ?_
        obtain rfl := sj hm2
        exact ⟨i36, H34, rfl, le35, hO.pick _ ⟨rfl, trivial⟩, f12_2, f13_2, f14_2, f23_2, f24_2, f25_2, f26_2⟩
       | cons x38 rest37 =>
        rw [switchboardref15_Small_l2] at hm2
        have hlt := drop_lt hd39
        have hnx := drop_next hd39
        have hinc := inc_len hlt (h22.up le31).1 (h22.up le31).2.1
        refine seq (region (val (x_lss f31_2 f30_2) ?_))
        refine nil (seq (W.cond_t (kb rfl hlt) ?_))
        refine skip (seq (W.block ?_))
        refine seq (region ?_)
        obtain ⟨a40, h41, hA42, hin⟩ := RS.atR (h22.up (le31.trans le35)) hd39
        refine val (x_ia (sA f29_2 hA42) f31_2 sle39 hin) ?_
        obtain ⟨cs43, hr44, hc45⟩ := At.agg h41
        obtain ⟨A46, c47, A49, c50, rfl, h48, h51⟩ := hr44
        refine val (x_ldv rfl (hc45 _ _ _ hO.sub agg50)) ?_
        refine o_alloc 2 _ [(.slice none 0 0), (.slice none 0 0)] zer50 hO rfl ?_
        intro g52 w53 hO
        refine o_sts 2 [(.slice A46 x38.In.length c47), (.slice A49 x38.Out.length c50)] hO rfl rfl rfl siz50 rfl (Nat.le_of_ble_eq_true rfl) (by simp [Value.oneCell', vs]) ?_
        intro w54 hO
        refine nil (seq (region (val (x_fa rfl fo50_0) ?_)))
        refine val (x_ld 2 (.slice A46 x38.In.length c47) hO rfl rfl rfl one25) ?_
        obtain ⟨t55, ht56, hm2⟩ := bindSome hm2
        refine o_call hO go8 (switchboardref03_Small_ok hO.sub h48 ht56) rfl ?_
        rintro _ H57 w58 le59 rfl hO
        refine val (x_not rfl) ?_
        refine val (x_move (.bool (!t55)) rfl) ?_
        refine gval rfl rfl (fun hb => x_fa rfl fo50_1) ?_
        refine gval rfl rfl (fun hb => x_ld 2 (.slice A49 x38.Out.length c50) hO rfl (gv hb) rfl one25) ?_
        rcases btest hm2 with ⟨hb60, hm2⟩ | ⟨hb60, hm2⟩
        ·refine no rfl (kb rfl hb60) rfl ?_
         refine no rfl (kb rfl hb60) rfl ?_
         refine val (x_pick_t (kb rfl hb60) (.bool true) rfl) ?_
         refine nil (W.cond_t rfl ?_)
         refine seq (region (val (x_assign (.bool false) rfl) ?_))
         refine nil (W.ret ?_)
         obtain rfl := sj hm2
         dsimp only at hm1
         obtain rfl := sj hm1
         dsimp only at hm0
         obtain rfl := sj hm0
         exact ⟨H57, rfl, hO.done⟩
        ·refine yes rfl (kb rfl hb60) ?_
         obtain ⟨t61, ht62, hm2⟩ := bindSome hm2
         refine o_call hO go8 (switchboardref03_Small_ok hO.sub (h51.up le59) ht62) (args1 (by exact gkF hb60)) ?_
         rintro _ H63 w64 le65 rfl hO
         refine yes rfl (kb rfl hb60) ?_
         refine val (x_not rfl) ?_
         refine val (x_pick_f (kb rfl hb60) (.bool (!t61)) rfl) ?_
         refine nil (test rfl hm2 ?_ ?_)
         ·intro hb66 hm2
          refine seq (region (val (x_assign (.bool false) rfl) ?_))
          refine nil (W.ret ?_)
          obtain rfl := sj hm2
          dsimp only at hm1
          obtain rfl := sj hm1
          dsimp only at hm0
          obtain rfl := sj hm0
          exact ⟨H63, rfl, hO.done⟩
         ·intro hb66 hm2
          refine skip (region (val (x_add f31_2 rfl) ?_))
          refine val (x_move (.int .i64 (i64w ((i36 : Int) + 1))) rfl) ?_
          refine nil ?_
          exact ⟨_, Nat.lt_succ_self _, i36 + 1, rest37, H63, rfl, hnx, hm2, (le35.trans (le59.trans le65)), hO.pick _ ⟨rfl, trivial⟩, f12_2, f13_2, f14_2, f23_2, f24_2, f25_2, f26_2, f29_2, f30_2, (incv hinc)⟩
      ·intro r w
       rintro ⟨i69, H67, rfl, le68, hO, f70, f71, f72, f73, f74, f75, f76⟩
       dsimp only at hm1
       refine region (val (x_add f72 rfl) ?_)
       refine val (x_move (.int .i64 (i64w ((i7 : Int) + 1))) rfl) ?_
       refine nil ?_
       exact ⟨_, Nat.lt_succ_self _, i7 + 1, rest8, H67, rfl, hnx, hm1, (le6.trans (le31.trans le68)), hO.pick _ trivial, f70, f71, (incv hinc)⟩
  ·intro r w
   rintro ⟨i79, H77, rfl, le78, hO⟩
   dsimp only at hm0
   refine seq (region (val (x_assign (.bool true) rfl) ?_))
   refine nil (W.ret ?_)
   obtain rfl := sj hm0
   exact ⟨H77, rfl, hO.done⟩
theorem switchboardref03_Right_ok {w0 : World} {H0 : IHeap} (hS : Sub H0 w0) {p0 : List (List Int)} {p1 : Int} {p2 : Int}  {A1_ : Option Addr} {c1_ : Nat} (h1_ : RS (eSl (eInt .i64)) H0 A1_ c1_ p0) {res : Bool} (hm0 : switchboardref03_Right p0 p1 p2 = some res) :
  Ok prog 53 [(.slice A1_ p0.length c1_), (.int .i64 p1), (.int .i64 p2)].toArray w0 H0 (fun H' v => v = (.bool res)) := by
 unfold switchboardref03_Right at hm0
 refine ok_of_W Tryz.func53 rfl Tryz.ntmps53 (ts := [6]) rfl rfl rfl ?_
 have hO := St.start hS
 refine seq (region (val (x_assign (.bool false) rfl) ?_))
 refine nil (seq (seq (region (val (x_move (.slice A1_ p0.length c1_) rfl) ?_))))
 refine val (x_len rfl underlying25) ?_
 refine val (x_move (.int .i64 p1) rfl) ?_
 refine val (x_neq rfl rfl) ?_
 refine nil (test rfl hm0 ?_ ?_)
 ·intro hb1 hm0
  refine seq (region (val (x_assign (.bool false) rfl) ?_))
  refine nil (W.ret ?_)
  obtain rfl := sj hm0
  exact ⟨H0, rfl, hO.done⟩
 ·intro hb1 hm0
  refine skip (seq (seq (region (val (x_assign (.int .i64 0) rfl) ?_))))
  refine nil ?_
  obtain ⟨o2, hm1, hm0⟩ := bindSome hm0
  have hO := hO.pick [] trivial
  refine W.blockLoop (fun r w => ∃ (v8 : Int) (H3 : IHeap), .out v8 = o2 ∧ Le H0 H3 ∧ St w0 H0 [] H3 (ol []) w) (fun k r w => ∃ (rest6 : Nat) (v8 : Int) (H3 : IHeap), rest6 = k ∧ switchboardref03_Right_l1 p0 p2 rest6 v8 = some o2 ∧ Le H0 H3 ∧ St w0 H0 [] H3 (ol []) w ∧ r 0 = (.slice A1_ p0.length c1_) ∧ r 2 = (.int .i64 p2) ∧ r 7 = (.int .i64 v8)) FUEL ?_ ?_ ?_
  ·exact ⟨_, 0, _, rfl, hm1, Le.refl _, hO, rfl, rfl, rfl⟩
  ·
   intro k r w
   rintro ⟨rest6, v8, H3, rfl, hm1, le4, hO, f0_1, f2_1, f7_1⟩
   cases rest6 with
   | zero => rw [switchboardref03_Right_l1] at hm1; cases hm1
   | succ rest6 =>
    rw [switchboardref03_Right_l1] at hm1
    refine seq (seq (region (val (x_move (.int .i64 v8) f7_1) ?_)))
    refine val (x_move (.slice A1_ p0.length c1_) f0_1) ?_
    refine val (x_len rfl underlying25) ?_
    refine val (x_lss rfl rfl) ?_
    refine nil (test rfl hm1 ?_ ?_)
    ·intro hb9 hm1
     refine skip (seq (W.block ?_))
     refine seq (seq (region (val (x_move (.slice A1_ p0.length c1_) f0_1) ?_)))
     refine val (x_move (.int .i64 v8) f7_1) ?_
     obtain ⟨hin13, hm1⟩ := chk hm1
     obtain ⟨a10, h11, hA12⟩ := RS.at_ (h1_.up le4) hin13
     refine val (x_ia (sA rfl hA12) rfl sle25 hin13) ?_
     obtain ⟨A14, c15, h16, hc17⟩ := At.sl h11
     refine val (x_ldc rfl (hc17 _ hO.sub) one61) ?_
     refine val (x_len rfl underlying61) ?_
     refine val (x_move (.int .i64 p2) f2_1) ?_
     refine val (x_neq rfl rfl) ?_
     refine nil (test rfl hm1 ?_ ?_)
     ·intro hb18 hm1
      refine seq (region (val (x_assign (.bool false) rfl) ?_))
      refine nil (W.ret ?_)
      obtain rfl := sj hm1
      dsimp only at hm0
      obtain rfl := sj hm0
      exact ⟨H3, rfl, hO.done⟩
     ·intro hb18 hm1
      refine skip (seq (region (val (x_assign (.int .i64 0) rfl) ?_)))
      refine nil ?_
      obtain ⟨o19, hm2, hm1⟩ := bindSome hm1
      have hO := hO.pick [] trivial
      refine W.blockLoop (fun r w => ∃ (v25 : Int) (H20 : IHeap), .out v25 = o19 ∧ Le H3 H20 ∧ St w0 H0 [] H20 (ol []) w ∧ r 0 = (.slice A1_ p0.length c1_) ∧ r 2 = (.int .i64 p2) ∧ r 7 = (.int .i64 v8)) (fun k r w => ∃ (rest23 : Nat) (v25 : Int) (H20 : IHeap), rest23 = k ∧ switchboardref03_Right_l2 p0 v8 rest23 v25 = some o19 ∧ Le H3 H20 ∧ St w0 H0 [] H20 (ol []) w ∧ r 0 = (.slice A1_ p0.length c1_) ∧ r 2 = (.int .i64 p2) ∧ r 7 = (.int .i64 v8) ∧ r 8 = (.int .i64 v25)) FUEL ?_ ?_ ?_
      ·exact ⟨_, 0, _, rfl, hm2, Le.refl _, hO, f0_1, f2_1, f7_1, rfl⟩
      ·
       intro k r w
       rintro ⟨rest23, v25, H20, rfl, hm2, le21, hO, f0_2, f2_2, f7_2, f8_2⟩
       cases rest23 with
       | zero => rw [switchboardref03_Right_l2] at hm2; cases hm2
       | succ rest23 =>
        rw [switchboardref03_Right_l2] at hm2
        refine seq (seq (region (val (x_move (.int .i64 v25) f8_2) ?_)))
        refine val (x_move (.slice A1_ p0.length c1_) f0_2) ?_
        refine val (x_move (.int .i64 v8) f7_2) ?_
        obtain ⟨hin29, hm2⟩ := chk hm2
        obtain ⟨a26, h27, hA28⟩ := RS.at_ (h1_.up (le4.trans le21)) hin29
        refine val (x_ia (sA rfl hA28) rfl sle25 hin29) ?_
        obtain ⟨A30, c31, h32, hc33⟩ := At.sl h27
        refine val (x_ldc rfl (hc33 _ hO.sub) one61) ?_
        refine val (x_len rfl underlying61) ?_
        refine val (x_lss rfl rfl) ?_
        refine nil (test rfl hm2 ?_ ?_)
        ·intro hb34 hm2
         refine skip (seq (W.block ?_))
         refine seq (region (val (x_move (.slice A1_ p0.length c1_) f0_2) ?_))
         refine val (x_move (.int .i64 v8) f7_2) ?_
         obtain ⟨hin38, hm2⟩ := chk hm2
         obtain ⟨a35, h36, hA37⟩ := RS.at_ (h1_.up (le4.trans le21)) hin38
         refine val (x_ia (sA rfl hA37) rfl sle25 hin38) ?_
         obtain ⟨A39, c40, h41, hc42⟩ := At.sl h36
         refine val (x_ldc rfl (hc42 _ hO.sub) one61) ?_
         refine val (x_move (.int .i64 v25) f8_2) ?_
         obtain ⟨hin46, hm2⟩ := chk hm2
         obtain ⟨a43, h44, hA45⟩ := RS.at_ h41 hin46
         refine val (x_ia (sA rfl hA45) rfl sle61 hin46) ?_
         refine val (x_ldc rfl (h44.int _ hO.sub) one3) ?_
         refine val (x_gtr rfl rfl) ?_
         refine val (x_move (.bool (decide (2147483647 < (at0 (at0 p0 v8) v25)))) rfl) ?_
         refine gval rfl rfl (fun hb => x_move (.slice A1_ p0.length c1_) f0_2) ?_
         refine gval rfl rfl (fun hb => x_move (.int .i64 v8) f7_2) ?_
         rcases btest hm2 with ⟨hb47, hm2⟩ | ⟨hb47, hm2⟩
         ·refine no rfl (kb rfl hb47) rfl ?_
          refine no rfl (kb rfl hb47) rfl ?_
          refine no rfl (kb rfl hb47) rfl ?_
          refine no rfl (kb rfl hb47) rfl ?_
          refine no rfl (kb rfl hb47) rfl ?_
          refine no rfl (kb rfl hb47) rfl ?_
          refine val (x_pick_t (kb rfl hb47) (.bool true) rfl) ?_
          refine nil (W.cond_t rfl ?_)
          refine seq (region (val (x_assign (.bool false) rfl) ?_))
          refine nil (W.ret ?_)
          obtain rfl := sj hm2
          dsimp only at hm1
          obtain rfl := sj hm1
          dsimp only at hm0
          obtain rfl := sj hm0
          exact ⟨H20, rfl, hO.done⟩
         ·refine yes rfl (kb rfl hb47) ?_
          obtain ⟨hin51, hm2⟩ := chk hm2
          obtain ⟨a48, h49, hA50⟩ := RS.at_ (h1_.up (le4.trans le21)) hin51
          refine val (x_ia (sA (by exact gkF hb47) hA50) (by exact gkF hb47) sle25 hin51) ?_
          obtain ⟨A52, c53, h54, hc55⟩ := At.sl h49
          refine yes rfl (kb rfl hb47) ?_
          refine val (x_ldc rfl (hc55 _ hO.sub) one61) ?_
          refine yes rfl (kb rfl hb47) ?_
          refine val (x_move (.int .i64 v25) f8_2) ?_
          refine yes rfl (kb rfl hb47) ?_
          obtain ⟨hin59, hm2⟩ := chk hm2
          obtain ⟨a56, h57, hA58⟩ := RS.at_ h54 hin59
          refine val (x_ia (sA rfl hA58) rfl sle61 hin59) ?_
          refine yes rfl (kb rfl hb47) ?_
          refine val (x_ldc rfl (h57.int _ hO.sub) one3) ?_
          refine yes rfl (kb rfl hb47) ?_
          refine val (x_lss rfl rfl) ?_
          refine val (x_pick_f (kb rfl hb47) (.bool (decide ((at0 (at0 p0 v8) v25) < (-2147483647)))) rfl) ?_
          refine nil (test rfl hm2 ?_ ?_)
          ·intro hb60 hm2
           refine seq (region (val (x_assign (.bool false) rfl) ?_))
           refine nil (W.ret ?_)
           obtain rfl := sj hm2
           dsimp only at hm1
           obtain rfl := sj hm1
           dsimp only at hm0
           obtain rfl := sj hm0
           exact ⟨H20, rfl, hO.done⟩
          ·intro hb60 hm2
           refine skip (region (val (x_move (.int .i64 v25) f8_2) ?_))
           refine val (x_add rfl rfl) ?_
           refine val (x_assign (.int .i64 (i64w (v25 + 1))) rfl) ?_
           refine nil ?_
           exact ⟨_, Nat.lt_succ_self _, rest23, i64w (v25 + 1), H20, rfl, hm2, le21, hO.pick _ trivial, f0_2, f2_2, f7_2, rfl⟩
        ·intro hb34 hm2
         refine W.exit _ rfl ?_
         obtain rfl := sj hm2
         exact ⟨v25, H20, rfl, le21, hO.pick _ trivial, f0_2, f2_2, f7_2⟩
      ·intro r w
       rintro ⟨v63, H61, rfl, le62, hO, f65, f66, f67⟩
       dsimp only at hm1
       refine region (val (x_move (.int .i64 v8) f67) ?_)
       refine val (x_add rfl rfl) ?_
       refine val (x_assign (.int .i64 (i64w (v8 + 1))) rfl) ?_
       refine nil ?_
       exact ⟨_, Nat.lt_succ_self _, rest6, i64w (v8 + 1), H61, rfl, hm1, (le4.trans le62), hO.pick _ trivial, f65, f66, rfl⟩
    ·intro hb9 hm1
     refine W.exit _ rfl ?_
     obtain rfl := sj hm1
     exact ⟨v8, H3, rfl, le4, hO.pick _ trivial⟩
  ·intro r w
   rintro ⟨v70, H68, rfl, le69, hO⟩
   dsimp only at hm0
   refine seq (region (val (x_assign (.bool true) rfl) ?_))
   refine nil (W.ret ?_)
   obtain rfl := sj hm0
   exact ⟨H68, rfl, hO.done⟩
theorem switchboardref11_Right_ok {w0 : World} {H0 : IHeap} (hS : Sub H0 w0) {p0 : ApiExpert} {p1 : Int}  {A1_ : Option Addr} {c1_ : Nat} {A2_ : Option Addr} {c2_ : Nat} (h1_ : RS (eSl (eInt .i64)) H0 A1_ c1_ p0.In) (h2_ : RS (eSl (eInt .i64)) H0 A2_ c2_ p0.Out) {res : Bool} (hm0 : switchboardref11_Right p0 p1 = some res) :
  Ok prog 18 [(.agg #[(.slice A1_ p0.In.length c1_), (.slice A2_ p0.Out.length c2_)]), (.int .i64 p1)].toArray w0 H0 (fun H' v => v = (.bool res)) := by
 unfold switchboardref11_Right at hm0
 refine ok_of_W Tryz.func18 rfl Tryz.ntmps18 (ts := [4]) rfl rfl rfl ?_
 have hO := St.start hS
 refine seq (region (o_box 0 [(.slice A1_ p0.In.length c1_), (.slice A2_ p0.Out.length c2_)] hO rfl ?_))
 intro g1 w2 hO
 refine val (x_assign (.bool false) rfl) ?_
 refine nil (seq (region (val (x_fa rfl fo50_0) ?_)))
 refine val (x_ld 0 (.slice A1_ p0.In.length c1_) hO rfl rfl rfl one25) ?_
 refine val (x_len rfl underlying25) ?_
 refine val (x_assign (.int .i64 (p0.In.length : Int)) rfl) ?_
 refine nil (seq (seq (region (val (x_move (.int .i64 p1) rfl) ?_))))
 refine val (x_lss rfl rfl) ?_
 refine val (x_move (.bool (decide (p1 < 1))) rfl) ?_
 refine gval rfl rfl (fun hb => x_move (.int .i64 p1) rfl) ?_
 refine gval rfl rfl (fun hb => x_gtr (gv hb) rfl) ?_
 refine val (x_pick rfl (.bool ((decide (p1 < 1)) || (decide (8 < p1)))) pick_or) ?_
 refine val (x_move (.bool ((decide (p1 < 1)) || (decide (8 < p1)))) rfl) ?_
 refine gval rfl rfl (fun hb => x_move (.int .i64 (p0.In.length : Int)) rfl) ?_
 refine gval rfl rfl (fun hb => x_lss (gv hb) rfl) ?_
 refine val (x_pick rfl (.bool (((decide (p1 < 1)) || (decide (8 < p1))) || (decide ((p0.In.length : Int) < 1)))) pick_or) ?_
 refine val (x_move (.bool (((decide (p1 < 1)) || (decide (8 < p1))) || (decide ((p0.In.length : Int) < 1)))) rfl) ?_
 refine gval rfl rfl (fun hb => x_move (.int .i64 (p0.In.length : Int)) rfl) ?_
 refine gval rfl rfl (fun hb => x_gtr (gv hb) rfl) ?_
 refine val (x_pick rfl (.bool ((((decide (p1 < 1)) || (decide (8 < p1))) || (decide ((p0.In.length : Int) < 1))) || (decide (8 < (p0.In.length : Int))))) pick_or) ?_
 refine nil (test rfl hm0 ?_ ?_)
 ·intro hb3 hm0
  refine seq (region (val (x_assign (.bool false) rfl) ?_))
  refine nil (W.ret ?_)
  obtain rfl := sj hm0
  exact ⟨H0, rfl, hO.done⟩
 ·intro hb3 hm0
  refine skip (seq (region (val (x_fa rfl fo50_0) ?_)))
  refine val (x_ld 0 (.slice A1_ p0.In.length c1_) hO rfl rfl rfl one25) ?_
  refine val (x_move (.int .i64 (p0.In.length : Int)) rfl) ?_
  refine val (x_move (.int .i64 p1) rfl) ?_
  obtain ⟨t4, ht5, hm0⟩ := bindSome hm0
  refine o_call hO go53 (switchboardref03_Right_ok hO.sub h1_ ht5) rfl ?_
  rintro _ H6 w7 le8 rfl hO
  refine val (x_move (.bool t4) rfl) ?_
  refine gval rfl rfl (fun hb => x_fa rfl fo50_1) ?_
  refine gval rfl rfl (fun hb => x_ld 0 (.slice A2_ p0.Out.length c2_) hO rfl (gv hb) rfl one25) ?_
  refine gval rfl rfl (fun hb => x_move (.int .i64 p1) rfl) ?_
  refine gval rfl rfl (fun hb => x_move (.int .i64 (p0.In.length : Int)) rfl) ?_
  rcases btest hm0 with ⟨hb9, hm0⟩ | ⟨hb9, hm0⟩
  ·refine yes rfl (kb rfl hb9) ?_
   obtain ⟨t10, ht11, hm0⟩ := bindSome hm0
   refine o_call hO go53 (switchboardref03_Right_ok hO.sub (h2_.up le8) ht11) (args3 (by exact gkT hb9) (by exact gkT hb9) (by exact gkT hb9)) ?_
   rintro _ H12 w13 le14 rfl hO
   refine val (x_pick_t (kb rfl hb9) (.bool t10) rfl) ?_
   refine val (x_assign (.bool t10) rfl) ?_
   refine nil (W.ret ?_)
   obtain rfl := sj hm0
   exact ⟨H12, rfl, hO.done⟩
  ·refine no rfl (kb rfl hb9) rfl ?_
   refine val (x_pick_f (kb rfl hb9) (.bool false) rfl) ?_
   refine val (x_assign (.bool false) rfl) ?_
   refine nil (W.ret ?_)
   obtain rfl := sj hm0
   exact ⟨H6, rfl, hO.done⟩
theorem switchboardref15_Right_ok {w0 : World} {H0 : IHeap} (hS : Sub H0 w0) {p0 : ApiModel}  {A1_ : Option Addr} {c1_ : Nat} (h1_ : RS eApiLayer H0 A1_ c1_ p0.Layers) {res : Bool} (hm0 : switchboardref15_Right p0 = some res) :
  Ok prog 30 [(.agg #[(.int .i64 p0.Dim), (.slice A1_ p0.Layers.length c1_)])].toArray w0 H0 (fun H' v => v = (.bool res)) := by
 unfold switchboardref15_Right at hm0
 refine ok_of_W Tryz.func30 rfl Tryz.ntmps30 (ts := [2]) rfl rfl rfl ?_
 have hO := St.start hS
 refine seq (region (o_box 0 [(.int .i64 p0.Dim), (.slice A1_ p0.Layers.length c1_)] hO rfl ?_))
 intro g1 w2 hO
 refine val (x_assign (.bool false) rfl) ?_
 refine nil (seq (seq (region (val (x_fa rfl fo24_0) ?_))))
 refine val (x_ld 0 (.int .i64 p0.Dim) hO rfl rfl rfl one3) ?_
 refine val (x_lss rfl rfl) ?_
 refine val (x_move (.bool (decide (p0.Dim < 1))) rfl) ?_
 refine gval rfl rfl (fun hb => x_fa rfl fo24_0) ?_
 refine gval rfl rfl (fun hb => x_ld 0 (.int .i64 p0.Dim) hO rfl (gv hb) rfl one3) ?_
 refine gval rfl rfl (fun hb => x_gtr (gv hb) rfl) ?_
 refine val (x_pick rfl (.bool ((decide (p0.Dim < 1)) || (decide (8 < p0.Dim)))) pick_or) ?_
 refine val (x_move (.bool ((decide (p0.Dim < 1)) || (decide (8 < p0.Dim)))) rfl) ?_
 refine gval rfl rfl (fun hb => x_fa rfl fo24_1) ?_
 refine gval rfl rfl (fun hb => x_ld 0 (.slice A1_ p0.Layers.length c1_) hO rfl (gv hb) rfl one22) ?_
 refine gval rfl rfl (fun hb => x_len (gv hb) underlying22) ?_
 refine gval rfl rfl (fun hb => x_lss (gv hb) rfl) ?_
 refine val (x_pick rfl (.bool (((decide (p0.Dim < 1)) || (decide (8 < p0.Dim))) || (decide ((p0.Layers.length : Int) < 1)))) pick_or) ?_
 refine val (x_move (.bool (((decide (p0.Dim < 1)) || (decide (8 < p0.Dim))) || (decide ((p0.Layers.length : Int) < 1)))) rfl) ?_
 refine gval rfl rfl (fun hb => x_fa rfl fo24_1) ?_
 refine gval rfl rfl (fun hb => x_ld 0 (.slice A1_ p0.Layers.length c1_) hO rfl (gv hb) rfl one22) ?_
 refine gval rfl rfl (fun hb => x_len (gv hb) underlying22) ?_
 refine gval rfl rfl (fun hb => x_gtr (gv hb) rfl) ?_
 refine val (x_pick rfl (.bool ((((decide (p0.Dim < 1)) || (decide (8 < p0.Dim))) || (decide ((p0.Layers.length : Int) < 1))) || (decide (4 < (p0.Layers.length : Int))))) pick_or) ?_
 refine nil (test rfl hm0 ?_ ?_)
 ·intro hb3 hm0
  refine seq (region (val (x_assign (.bool false) rfl) ?_))
  refine nil (W.ret ?_)
  obtain rfl := sj hm0
  exact ⟨H0, rfl, hO.done⟩
 ·intro hb3 hm0
  refine skip (seq (seq (region (val (x_fa rfl fo24_1) ?_))))
  refine val (x_ld 0 (.slice A1_ p0.Layers.length c1_) hO rfl rfl rfl one22) ?_
  refine val (x_len rfl underlying22) ?_
  refine val (x_move (.int .i64 0) rfl) ?_
  refine nil ?_
  obtain ⟨o4, hm1, hm0⟩ := bindSome hm0
  have hO := hO.pick [(0, .blk g1 [(.int .i64 p0.Dim), (.slice A1_ p0.Layers.length c1_)] 24)] ⟨rfl, trivial⟩
  refine W.blockLoop (fun r w => ∃ (i7 : Nat) (H5 : IHeap), .out () = o4 ∧ Le H0 H5 ∧ St w0 H0 [] H5 (ol [(0, .blk g1 [(.int .i64 p0.Dim), (.slice A1_ p0.Layers.length c1_)] 24)]) w) (fun k r w => ∃ (i7 : Nat) (rest8 : List ApiLayer) (H5 : IHeap), k = rest8.length ∧ List.drop i7 p0.Layers = rest8 ∧ switchboardref15_Right_l1 p0 rest8 i7 = some o4 ∧ Le H0 H5 ∧ St w0 H0 [] H5 (ol [(0, .blk g1 [(.int .i64 p0.Dim), (.slice A1_ p0.Layers.length c1_)] 24)]) w ∧ r 1 = (.pointer (some ⟨g1, 0, none⟩)) ∧ r 29 = (.slice A1_ p0.Layers.length c1_) ∧ r 30 = (.int .i64 (p0.Layers.length : Int)) ∧ r 31 = (.int .i64 (i7 : Int))) (List.length p0.Layers) ?_ ?_ ?_
  ·exact ⟨0, _, _, rfl, rfl, hm1, Le.refl _, hO, rfl, rfl, rfl, rfl⟩
  ·
   intro k r w
   rintro ⟨i7, rest8, H5, rfl, hd10, hm1, le6, hO, f1_1, f29_1, f30_1, f31_1⟩
   cases rest8 with
   | nil =>
    rw [switchboardref15_Right_l1] at hm1
    have hlt := drop_nil hd10
    refine seq (region (val (x_lss f31_1 f30_1) ?_))
    refine nil (seq (W.cond_f (kb rfl hlt) ?_))
    refine W.exit _ rfl ?_
    obtain rfl := sj hm1
    exact ⟨i7, H5, rfl, le6, hO.pick _ ⟨rfl, trivial⟩⟩
   | cons x9 rest8 =>
    rw [switchboardref15_Right_l1] at hm1
    have hlt := drop_lt hd10
    have hnx := drop_next hd10
    have hinc := inc_len hlt h1_.1 h1_.2.1
    refine seq (region (val (x_lss f31_1 f30_1) ?_))
    refine nil (seq (W.cond_t (kb rfl hlt) ?_))
    refine skip (seq (W.block ?_))
    refine seq (region ?_)
    obtain ⟨a11, h12, hA13, hin⟩ := RS.atR (h1_.up le6) hd10
    refine val (x_ia (sA f29_1 hA13) f31_1 sle22 hin) ?_
    obtain ⟨cs14, hr15, hc16⟩ := At.agg h12
    obtain ⟨A17, c18, A20, c21, rfl, h19, h22⟩ := hr15
    refine val (x_ldv rfl (hc16 _ _ _ hO.sub agg41)) ?_
    refine o_alloc 1 _ [(.slice none 0 0), (.slice none 0 0), (.int .i64 0)] zer41 hO rfl ?_
    intro g23 w24 hO
    refine o_sts 1 [(.slice A17 x9.Gate.length c18), (.slice A20 x9.Experts.length c21), (.int .i64 x9.Capacity)] hO rfl rfl rfl siz41 rfl (Nat.le_of_ble_eq_true rfl) (by simp [Value.oneCell', vs]) ?_
    intro w25 hO
    refine nil (seq (region (val (x_fa rfl fo41_1) ?_)))
    refine val (x_ld 1 (.slice A20 x9.Experts.length c21) hO rfl rfl rfl one39) ?_
    refine val (x_len rfl underlying39) ?_
    refine val (x_assign (.int .i64 (x9.Experts.length : Int)) rfl) ?_
    refine nil (seq (seq (region (val (x_move (.int .i64 (x9.Experts.length : Int)) rfl) ?_))))
    refine val (x_lss rfl rfl) ?_
    refine val (x_move (.bool (decide ((x9.Experts.length : Int) < 1))) rfl) ?_
    refine gval rfl rfl (fun hb => x_move (.int .i64 (x9.Experts.length : Int)) rfl) ?_
    refine gval rfl rfl (fun hb => x_gtr (gv hb) rfl) ?_
    refine val (x_pick rfl (.bool ((decide ((x9.Experts.length : Int) < 1)) || (decide (8 < (x9.Experts.length : Int))))) pick_or) ?_
    refine val (x_move (.bool ((decide ((x9.Experts.length : Int) < 1)) || (decide (8 < (x9.Experts.length : Int))))) rfl) ?_
    refine gval rfl rfl (fun hb => x_fa rfl fo41_0) ?_
    refine gval rfl rfl (fun hb => x_ld 1 (.slice A17 x9.Gate.length c18) hO rfl (gv hb) rfl one25) ?_
    refine gval rfl rfl (fun hb => x_move (.int .i64 (x9.Experts.length : Int)) rfl) ?_
    refine gval rfl rfl (fun hb => x_fa f1_1 fo24_0) ?_
    refine gval rfl rfl (fun hb => x_ld 0 (.int .i64 p0.Dim) hO rfl (gv hb) rfl one3) ?_
    rcases btest hm1 with ⟨hb26, hm1⟩ | ⟨hb26, hm1⟩
    ·refine no rfl (kb rfl hb26) rfl ?_
     refine no rfl (kb rfl hb26) rfl ?_
     refine val (x_pick_t (kb rfl hb26) (.bool true) rfl) ?_
     refine val (x_move (.bool true) rfl) ?_
     refine no rfl rfl rfl ?_
     refine no rfl rfl rfl ?_
     refine no rfl rfl rfl ?_
     refine val (x_pick_t rfl (.bool true) rfl) ?_
     refine val (x_move (.bool true) rfl) ?_
     refine no rfl rfl rfl ?_
     refine no rfl rfl rfl ?_
     refine no rfl rfl rfl ?_
     refine val (x_pick_t rfl (.bool true) rfl) ?_
     refine nil (W.cond_t rfl ?_)
     refine seq (region (val (x_assign (.bool false) rfl) ?_))
     refine nil (W.ret ?_)
     obtain rfl := sj hm1
     dsimp only at hm0
     obtain rfl := sj hm0
     exact ⟨H5, rfl, hO.done⟩
    ·refine yes rfl (kb rfl hb26) ?_
     obtain ⟨t27, ht28, hm1⟩ := bindSome hm1
     refine o_call hO go53 (switchboardref03_Right_ok hO.sub h19 ht28) (args3 (by exact gkF hb26) (by exact gkF hb26) (by exact gkF hb26)) ?_
     rintro _ H29 w30 le31 rfl hO
     refine yes rfl (kb rfl hb26) ?_
     refine val (x_not rfl) ?_
     refine val (x_pick_f (kb rfl hb26) (.bool (!t27)) rfl) ?_
     refine val (x_move (.bool (!t27)) rfl) ?_
     refine gval rfl rfl (fun hb => x_fa rfl fo41_2) ?_
     refine gval rfl rfl (fun hb => x_ld 1 (.int .i64 x9.Capacity) hO rfl (gv hb) rfl one3) ?_
     refine gval rfl rfl (fun hb => x_lss (gv hb) rfl) ?_
     refine val (x_pick rfl (.bool ((!t27) || (decide (x9.Capacity < 1)))) pick_or) ?_
     refine val (x_move (.bool ((!t27) || (decide (x9.Capacity < 1)))) rfl) ?_
     refine gval rfl rfl (fun hb => x_fa rfl fo41_2) ?_
     refine gval rfl rfl (fun hb => x_ld 1 (.int .i64 x9.Capacity) hO rfl (gv hb) rfl one3) ?_
     refine gval rfl rfl (fun hb => x_gtr (gv hb) rfl) ?_
     refine val (x_pick rfl (.bool (((!t27) || (decide (x9.Capacity < 1))) || (decide (32 < x9.Capacity)))) pick_or) ?_
     refine nil (test rfl hm1 ?_ ?_)
     ·intro hb32 hm1
      refine seq (region (val (x_assign (.bool false) rfl) ?_))
      refine nil (W.ret ?_)
      obtain rfl := sj hm1
      dsimp only at hm0
      obtain rfl := sj hm0
      exact ⟨H29, rfl, hO.done⟩
     ·intro hb32 hm1
      refine skip (seq (region (val (x_fa rfl fo41_1) ?_)))
      refine val (x_ld 1 (.slice A20 x9.Experts.length c21) hO rfl rfl rfl one39) ?_
      refine val (x_len rfl underlying39) ?_
      refine val (x_move (.int .i64 0) rfl) ?_
      refine nil ?_
      obtain ⟨o33, hm2, hm1⟩ := bindSome hm1
      have hO := hO.pick [(0, .blk g1 [(.int .i64 p0.Dim), (.slice A1_ p0.Layers.length c1_)] 24), (1, .blk g23 [(.slice A17 x9.Gate.length c18), (.slice A20 x9.Experts.length c21), (.int .i64 x9.Capacity)] 41)] ⟨rfl, rfl, trivial⟩
      refine W.blockLoop (fun r w => ∃ (i36 : Nat) (H34 : IHeap), .out () = o33 ∧ Le H29 H34 ∧ St w0 H0 [] H34 (ol [(0, .blk g1 [(.int .i64 p0.Dim), (.slice A1_ p0.Layers.length c1_)] 24), (1, .blk g23 [(.slice A17 x9.Gate.length c18), (.slice A20 x9.Experts.length c21), (.int .i64 x9.Capacity)] 41)]) w ∧ r 1 = (.pointer (some ⟨g1, 0, none⟩)) ∧ r 29 = (.slice A1_ p0.Layers.length c1_) ∧ r 30 = (.int .i64 (p0.Layers.length : Int)) ∧ r 31 = (.int .i64 (i7 : Int)) ∧ r 41 = (bif (decide ((x9.Experts.length : Int) < 1)) == false then (.int .i64 (x9.Experts.length : Int)) else undef) ∧ r 42 = (bif (decide ((x9.Experts.length : Int) < 1)) == false then (.bool (decide (8 < (x9.Experts.length : Int)))) else undef) ∧ r 45 = (.pointer (some ⟨g23, 0, none⟩)) ∧ r 46 = (.slice A17 x9.Gate.length c18) ∧ r 47 = (.int .i64 (x9.Experts.length : Int)) ∧ r 48 = (.pointer (some ⟨g1, 0, none⟩)) ∧ r 49 = (.int .i64 p0.Dim) ∧ r 50 = (.bool t27) ∧ r 51 = (.bool (!t27)) ∧ r 54 = (bif (!t27) == false then (.pointer (some ⟨g23, 2, none⟩)) else undef) ∧ r 55 = (bif (!t27) == false then (.int .i64 x9.Capacity) else undef) ∧ r 56 = (bif (!t27) == false then (.bool (decide (x9.Capacity < 1))) else undef) ∧ r 59 = (bif ((!t27) || (decide (x9.Capacity < 1))) == false then (.pointer (some ⟨g23, 2, none⟩)) else undef) ∧ r 60 = (bif ((!t27) || (decide (x9.Capacity < 1))) == false then (.int .i64 x9.Capacity) else undef) ∧ r 61 = (bif ((!t27) || (decide (x9.Capacity < 1))) == false then (.bool (decide (32 < x9.Capacity))) else undef)) (fun k r w => ∃ (i36 : Nat) (rest37 : List ApiExpert) (H34 : IHeap), k = rest37.length ∧ List.drop i36 x9.Experts = rest37 ∧ switchboardref15_Right_l2 p0 rest37 i36 = some o33 ∧ Le H29 H34 ∧ St w0 H0 [] H34 (ol [(0, .blk g1 [(.int .i64 p0.Dim), (.slice A1_ p0.Layers.length c1_)] 24), (1, .blk g23 [(.slice A17 x9.Gate.length c18), (.slice A20 x9.Experts.length c21), (.int .i64 x9.Capacity)] 41)]) w ∧ r 1 = (.pointer (some ⟨g1, 0, none⟩)) ∧ r 29 = (.slice A1_ p0.Layers.length c1_) ∧ r 30 = (.int .i64 (p0.Layers.length : Int)) ∧ r 31 = (.int .i64 (i7 : Int)) ∧ r 41 = (bif (decide ((x9.Experts.length : Int) < 1)) == false then (.int .i64 (x9.Experts.length : Int)) else undef) ∧ r 42 = (bif (decide ((x9.Experts.length : Int) < 1)) == false then (.bool (decide (8 < (x9.Experts.length : Int)))) else undef) ∧ r 45 = (.pointer (some ⟨g23, 0, none⟩)) ∧ r 46 = (.slice A17 x9.Gate.length c18) ∧ r 47 = (.int .i64 (x9.Experts.length : Int)) ∧ r 48 = (.pointer (some ⟨g1, 0, none⟩)) ∧ r 49 = (.int .i64 p0.Dim) ∧ r 50 = (.bool t27) ∧ r 51 = (.bool (!t27)) ∧ r 54 = (bif (!t27) == false then (.pointer (some ⟨g23, 2, none⟩)) else undef) ∧ r 55 = (bif (!t27) == false then (.int .i64 x9.Capacity) else undef) ∧ r 56 = (bif (!t27) == false then (.bool (decide (x9.Capacity < 1))) else undef) ∧ r 59 = (bif ((!t27) || (decide (x9.Capacity < 1))) == false then (.pointer (some ⟨g23, 2, none⟩)) else undef) ∧ r 60 = (bif ((!t27) || (decide (x9.Capacity < 1))) == false then (.int .i64 x9.Capacity) else undef) ∧ r 61 = (bif ((!t27) || (decide (x9.Capacity < 1))) == false then (.bool (decide (32 < x9.Capacity))) else undef) ∧ r 64 = (.slice A20 x9.Experts.length c21) ∧ r 65 = (.int .i64 (x9.Experts.length : Int)) ∧ r 66 = (.int .i64 (i36 : Int))) (List.length x9.Experts) ?_ ?_ ?_
      ·exact ⟨0, _, _, rfl, rfl, hm2, Le.refl _, hO, f1_1, f29_1, f30_1, f31_1, rfl, rfl, (by exact gkF hb26), (by exact gkF hb26), (by exact gkF hb26), (by exact gkF hb26), (by exact gkF hb26), rfl, rfl, rfl, rfl, rfl, rfl, rfl, rfl, rfl, rfl, rfl⟩
      ·
       intro k r w
       rintro ⟨i36, rest37, H34, rfl, hd39, hm2, le35, hO, f1_2, f29_2, f30_2, f31_2, f41_2, f42_2, f45_2, f46_2, f47_2, f48_2, f49_2, f50_2, f51_2, f54_2, f55_2, f56_2, f59_2, f60_2, f61_2, f64_2, f65_2, f66_2⟩
       cases rest37 with
       | nil =>
        rw [switchboardref15_Right_l2] at hm2
        have hlt := drop_nil hd39
        refine seq (region (val (x_lss f66_2 f65_2) ?_))
        refine nil (seq (W.cond_f (kb rfl hlt) ?_))
        refine W.exit _ rfl ?_
        obtain rfl := sj hm2
        exact ⟨i36, H34, rfl, le35, hO.pick _ ⟨rfl, rfl, trivial⟩, f1_2, f29_2, f30_2, f31_2, f41_2, f42_2, f45_2, f46_2, f47_2, f48_2, f49_2, f50_2, f51_2, f54_2, f55_2, f56_2, f59_2, f60_2, f61_2⟩
       | cons x38 rest37 =>
        rw [switchboardref15_Right_l2] at hm2
        have hlt := drop_lt hd39
        have hnx := drop_next hd39
        have hinc := inc_len hlt (h22.up le31).1 (h22.up le31).2.1
        refine seq (region (val (x_lss f66_2 f65_2) ?_))
        refine nil (seq (W.cond_t (kb rfl hlt) ?_))
        refine skip (seq (W.block ?_))
        refine seq (region ?_)
        obtain ⟨a40, h41, hA42, hin⟩ := RS.atR (h22.up (le31.trans le35)) hd39
        refine val (x_ia (sA f64_2 hA42) f66_2 sle39 hin) ?_
        obtain ⟨cs43, hr44, hc45⟩ := At.agg h41
        obtain ⟨A46, c47, A49, c50, rfl, h48, h51⟩ := hr44
        refine val (x_ldv rfl (hc45 _ _ _ hO.sub agg50)) ?_
        refine o_alloc 2 _ [(.slice none 0 0), (.slice none 0 0)] zer50 hO rfl ?_
        intro g52 w53 hO
        refine o_sts 2 [(.slice A46 x38.In.length c47), (.slice A49 x38.Out.length c50)] hO rfl rfl rfl siz50 rfl (Nat.le_of_ble_eq_true rfl) (by simp [Value.oneCell', vs]) ?_
        intro w54 hO
        refine nil (seq (region (val (x_lds 2 [(.slice A46 x38.In.length c47), (.slice A49 x38.Out.length c50)] hO rfl rfl agg50 rfl rfl) ?_)))
        refine val (x_fa f1_2 fo24_0) ?_
        refine val (x_ld 0 (.int .i64 p0.Dim) hO rfl rfl rfl one3) ?_
        obtain ⟨t55, ht56, hm2⟩ := bindSome hm2
        refine o_call hO go18 (switchboardref11_Right_ok hO.sub h48 h51 ht56) rfl ?_
        rintro _ H57 w58 le59 rfl hO
        refine val (x_not rfl) ?_
        refine nil (test rfl hm2 ?_ ?_)
        ·intro hb60 hm2
         refine seq (region (val (x_assign (.bool false) rfl) ?_))
         refine nil (W.ret ?_)
         obtain rfl := sj hm2
         dsimp only at hm1
         obtain rfl := sj hm1
         dsimp only at hm0
         obtain rfl := sj hm0
         exact ⟨H57, rfl, hO.done⟩
        ·intro hb60 hm2
         refine skip (region (val (x_add f66_2 rfl) ?_))
         refine val (x_move (.int .i64 (i64w ((i36 : Int) + 1))) rfl) ?_
         refine nil ?_
         exact ⟨_, Nat.lt_succ_self _, i36 + 1, rest37, H57, rfl, hnx, hm2, (le35.trans le59), hO.pick _ ⟨rfl, rfl, trivial⟩, f1_2, f29_2, f30_2, f31_2, f41_2, f42_2, f45_2, f46_2, f47_2, f48_2, f49_2, f50_2, f51_2, f54_2, f55_2, f56_2, f59_2, f60_2, f61_2, f64_2, f65_2, (incv hinc)⟩
      ·intro r w
       rintro ⟨i63, H61, rfl, le62, hO, f64, f65, f66, f67, f68, f69, f70, f71, f72, f73, f74, f75, f76, f77, f78, f79, f80, f81, f82⟩
       dsimp only at hm1
       refine region (val (x_add f67 rfl) ?_)
       refine val (x_move (.int .i64 (i64w ((i7 : Int) + 1))) rfl) ?_
       refine nil ?_
       exact ⟨_, Nat.lt_succ_self _, i7 + 1, rest8, H61, rfl, hnx, hm1, (le6.trans (le31.trans le62)), hO.pick _ ⟨rfl, trivial⟩, f64, f65, f66, (incv hinc)⟩
  ·intro r w
   rintro ⟨i85, H83, rfl, le84, hO⟩
   dsimp only at hm0
   refine seq (region (val (x_assign (.bool true) rfl) ?_))
   refine nil (W.ret ?_)
   obtain rfl := sj hm0
   exact ⟨H83, rfl, hO.done⟩
end Go.Sw

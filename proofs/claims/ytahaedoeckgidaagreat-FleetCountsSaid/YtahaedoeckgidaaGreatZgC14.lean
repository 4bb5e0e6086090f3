/- The calls compute the mirrors. -/
import Derived.Test.YtahaedoeckgidaaGreatZgF
import Derived.Test.YtahaedoeckgidaaGreatZgC12
import Derived.Test.YtahaedoeckgidaaGreatZgC13
set_option linter.unusedVariables false
set_option linter.unusedSimpArgs false
set_option maxRecDepth 100000
namespace Go.Sw
open WL (val nil gval yes no)
open W (region test seq skip)
open WA (take)
open Go.Proofs.Tryz
open Go.Proofs
theorem switchboardref14_Slot_ok {w0 : World} {H0 : IHeap} (hS : Sub H0 w0) {p0 : List (List Int)} {p1 : Int} {p2 : Int} {p3 : Int} {p4 : Int}  {A1_ : Option Addr} {c1_ : Nat} (h1_ : RS (eArr 2 (eInt .i64)) H0 A1_ c1_ p0) {res : Int} (hm0 : switchboardref14_Slot p0 p1 p2 p3 p4 = some res) :
  Ok prog 43 [(.slice A1_ p0.length c1_), (.int .i64 p1), (.int .i64 p2), (.int .i64 p3), (.int .i64 p4)].toArray w0 H0 (fun H' v => v = (.int .i64 res)) := by
 unfold switchboardref14_Slot at hm0
 refine ok_of_W Tryz.func43 rfl Tryz.ntmps43 (ts := [10]) rfl rfl rfl ?_
 have hO := St.start hS
 refine seq (region (val (x_assign (.int .i64 0) rfl) ?_))
 refine nil (seq (region (val (x_move (.slice A1_ p0.length c1_) rfl) ?_)))
 refine val (x_move (.int .i64 p3) rfl) ?_
 refine val (x_move (.int .i64 p4) rfl) ?_
 obtain ⟨hin4, hm0⟩ := chk hm0
 obtain ⟨a1, h2, hA3⟩ := RS.at_ h1_ hin4
 refine val (x_ia (sA rfl hA3) rfl sle94 hin4) ?_
 obtain ⟨hin5, hm0⟩ := chk hm0
 refine val (x_iaAt rfl h2 rfl are99 hin5) ?_
 refine val (x_ldc rfl ((h2.part (lens_idx (n := 2) (eInt .i64) hin5).part).int _ hO.sub) one3) ?_
 refine val (x_assign (.int .i64 (at0 (at0 p0 p3) p4)) rfl) ?_
 refine nil (seq (region (val (x_move (.slice A1_ p0.length c1_) rfl) ?_)))
 refine val (x_move (.int .i64 p3) rfl) ?_
 refine val (x_move (.int .i64 p4) rfl) ?_
 refine val (x_move (.int .i64 (at0 (at0 p0 p3) p4)) rfl) ?_
 obtain ⟨t6, ht7, hm0⟩ := bindSome hm0
 refine o_call hO go87 (switchboardref14_ahead_ok hO.sub h1_ ht7) rfl ?_
 rintro _ H8 w9 le10 rfl hO
 refine val (x_assign (.int .i64 t6) rfl) ?_
 refine nil (seq (seq (region (val (x_move (.int .i64 (at0 (at0 p0 p3) p4)) rfl) ?_))))
 refine val (x_lss rfl rfl) ?_
 refine val (x_move (.bool (decide ((at0 (at0 p0 p3) p4) < 0))) rfl) ?_
 refine gval rfl rfl (fun hb => x_move (.int .i64 (at0 (at0 p0 p3) p4)) rfl) ?_
 refine gval rfl rfl (fun hb => x_move (.int .i64 p1) rfl) ?_
 refine gval rfl rfl (fun hb => x_geq (gv hb) (gv hb)) ?_
 refine val (x_pick rfl (.bool ((decide ((at0 (at0 p0 p3) p4) < 0)) || (decide (p1 ≤ (at0 (at0 p0 p3) p4))))) pick_or) ?_
 refine val (x_move (.bool ((decide ((at0 (at0 p0 p3) p4) < 0)) || (decide (p1 ≤ (at0 (at0 p0 p3) p4))))) rfl) ?_
 refine gval rfl rfl (fun hb => x_move (.int .i64 t6) rfl) ?_
 refine gval rfl rfl (fun hb => x_move (.int .i64 p2) rfl) ?_
 refine gval rfl rfl (fun hb => x_geq (gv hb) (gv hb)) ?_
 refine val (x_pick rfl (.bool (((decide ((at0 (at0 p0 p3) p4) < 0)) || (decide (p1 ≤ (at0 (at0 p0 p3) p4)))) || (decide (p2 ≤ t6)))) pick_or) ?_
 refine nil (test rfl hm0 ?_ ?_)
 ·intro hb11 hm0
  refine seq (region (val (x_assign (.int .i64 (-1)) rfl) ?_))
  refine nil (W.ret ?_)
  obtain rfl := sj hm0
  exact ⟨H8, rfl, hO.done⟩
 ·intro hb11 hm0
  refine skip (seq (region (val (x_move (.int .i64 t6) rfl) ?_)))
  refine val (x_assign (.int .i64 t6) rfl) ?_
  refine nil (W.ret ?_)
  obtain rfl := sj hm0
  exact ⟨H8, rfl, hO.done⟩
theorem switchboardref15_Parts_ok {w0 : World} {H0 : IHeap} (hS : Sub H0 w0) {p0 : ApiLayer} {p1 : List (List Int)}  {A1_ : Option Addr} {c1_ : Nat} {A2_ : Option Addr} {c2_ : Nat} {A3_ : Option Addr} {c3_ : Nat} (h1_ : RS (eSl (eInt .i64)) H0 A1_ c1_ p0.Gate) (h2_ : RS eApiExpert H0 A2_ c2_ p0.Experts) (h3_ : RS (eSl (eInt .i64)) H0 A3_ c3_ p1) {res : (List ModelPart)} (hm0 : switchboardref15_Parts p0 p1 = some res) :
  Ok prog 12 [(.agg #[(.slice A1_ p0.Gate.length c1_), (.slice A2_ p0.Experts.length c2_), (.int .i64 p0.Capacity)]), (.slice A3_ p1.length c3_)].toArray w0 H0 (fun H' v => ∃ (A1 : Option Addr) (c1 : Nat), v = (.slice A1 res.length c1) ∧ RS eModelPart H' A1 c1 res) := by
 unfold switchboardref15_Parts at hm0
 refine ok_of_W Tryz.func12 rfl Tryz.ntmps12 (ts := [4]) rfl rfl rfl ?_
 have hO := St.start hS
 refine seq (region (o_box 0 [(.slice A1_ p0.Gate.length c1_), (.slice A2_ p0.Experts.length c2_), (.int .i64 p0.Capacity)] hO rfl ?_))
 intro g1 w2 hO
 refine val (x_assign (.slice none 0 0) rfl) ?_
 refine nil (seq (region (val (x_assign (.slice none 0 0) rfl) ?_)))
 refine nil (seq (seq (region (val (x_move (.slice A3_ p1.length c3_) rfl) ?_))))
 refine val (x_len rfl underlying25) ?_
 refine val (x_move (.int .i64 0) rfl) ?_
 refine nil ?_
 have hO := hO.nilRowT (α := List Int) 1 none 99 (eArr 2 (eInt .i64))
 obtain ⟨o3, hm1, hm0⟩ := bindSome hm0
 have hO := hO.pick [(0, .blk g1 [(.slice A1_ p0.Gate.length c1_), (.slice A2_ p0.Experts.length c2_), (.int .i64 p0.Capacity)] 41), (1, .row none 0 99 (eArr 2 (eInt .i64)).size ([] : List (List Int)).length [])] ⟨rfl, rfl, trivial⟩
 refine W.blockLoop (fun r w => ∃ (v9 : List (List Int)) (A10 : Option Addr) (c11 : Nat) (cs12 : List Value) (i6 : Nat) (H4 : IHeap), v9 = o3 ∧ Le H0 H4 ∧ St w0 H0 [] H4 (ol [(0, .blk g1 [(.slice A1_ p0.Gate.length c1_), (.slice A2_ p0.Experts.length c2_), (.int .i64 p0.Capacity)] 41), (1, .row A10 c11 99 (eArr 2 (eInt .i64)).size v9.length cs12)]) w ∧ r 1 = (.slice A3_ p1.length c3_) ∧ r 2 = (.pointer (some ⟨g1, 0, none⟩)) ∧ r 5 = (.slice A10 v9.length c11) ∧ Rows (eArr 2 (eInt .i64)) H4 cs12 v9) (fun k r w => ∃ (i6 : Nat) (rest7 : List (List Int)) (v9 : List (List Int)) (A10 : Option Addr) (c11 : Nat) (cs12 : List Value) (H4 : IHeap), k = rest7.length ∧ List.drop i6 p1 = rest7 ∧ switchboardref15_Parts_l1 p0 rest7 i6 v9 = some o3 ∧ Le H0 H4 ∧ St w0 H0 [] H4 (ol [(0, .blk g1 [(.slice A1_ p0.Gate.length c1_), (.slice A2_ p0.Experts.length c2_), (.int .i64 p0.Capacity)] 41), (1, .row A10 c11 99 (eArr 2 (eInt .i64)).size v9.length cs12)]) w ∧ r 1 = (.slice A3_ p1.length c3_) ∧ r 2 = (.pointer (some ⟨g1, 0, none⟩)) ∧ r 5 = (.slice A10 v9.length c11) ∧ r 14 = (.slice A3_ p1.length c3_) ∧ r 15 = (.int .i64 (p1.length : Int)) ∧ r 16 = (.int .i64 (i6 : Int)) ∧ Rows (eArr 2 (eInt .i64)) H4 cs12 v9) (List.length p1) ?_ ?_ ?_
 ·exact ⟨0, _, ([] : List (List Int)), none, 0, [], _, rfl, rfl, hm1, Le.refl _, hO, rfl, rfl, rfl, rfl, rfl, rfl, Rows.nil⟩
 ·
  intro k r w
  rintro ⟨i6, rest7, v9, A10, c11, cs12, H4, rfl, hd14, hm1, le5, hO, f1_1, f2_1, f5_1, f14_1, f15_1, f16_1, h13⟩
  cases rest7 with
  | nil =>
   rw [switchboardref15_Parts_l1] at hm1
   have hlt := drop_nil hd14
   refine seq (region (val (x_lss f16_1 f15_1) ?_))
   refine nil (seq (W.cond_f (kb rfl hlt) ?_))
   refine W.exit _ rfl ?_
   obtain rfl := sj hm1
   exact ⟨v9, A10, c11, cs12, i6, H4, rfl, le5, hO.pick _ ⟨rfl, rfl, trivial⟩, f1_1, f2_1, f5_1, h13⟩
  | cons x8 rest7 =>
   rw [switchboardref15_Parts_l1] at hm1
   have hlt := drop_lt hd14
   have hnx := drop_next hd14
   have hinc := inc_len hlt h3_.1 h3_.2.1
   refine seq (region (val (x_lss f16_1 f15_1) ?_))
   refine nil (seq (W.cond_t (kb rfl hlt) ?_))
   refine skip (seq (W.block ?_))
   refine seq (region ?_)
   obtain ⟨a15, h16, hA17, hin⟩ := RS.atR (h3_.up le5) hd14
   refine val (x_ia (sA f14_1 hA17) f16_1 sle25 hin) ?_
   obtain ⟨A18, c19, h20, hc21⟩ := At.sl h16
   refine val (x_ldc rfl (hc21 _ hO.sub) one61) ?_
   refine val (x_assign (.slice A18 x8.length c19) rfl) ?_
   refine nil (seq (region (val (x_fa f2_1 fo41_0) ?_)))
   refine val (x_ld 0 (.slice A1_ p0.Gate.length c1_) hO rfl rfl rfl one25) ?_
   refine val (x_move (.slice A18 x8.length c19) rfl) ?_
   obtain ⟨t22, ht23, hm1⟩ := bindSome hm1
   refine o_call hO go42 (switchboardref13_Choose_ok hO.sub (h1_.up le5) h20 ht23) rfl ?_
   rintro _ H24 w25 le26 rfl hO
   refine val (x_move (.tuple #[(.agg #[(.int .i64 t22.1.First), (.int .i64 t22.1.Second), (.int .i64 t22.1.W1), (.int .i64 t22.1.W2)]), (.bool t22.2)]) rfl) ?_
   refine val (x_extract (.agg #[(.int .i64 t22.1.First), (.int .i64 t22.1.Second), (.int .i64 t22.1.W1), (.int .i64 t22.1.W2)]) rfl rfl) ?_
   refine val (x_extract (.bool t22.2) rfl rfl) ?_
   refine o_alloc 2 _ [(.int .i64 0), (.int .i64 0), (.int .i64 0), (.int .i64 0)] zer96 hO rfl ?_
   intro g27 w28 hO
   refine o_sts 2 [(.int .i64 t22.1.First), (.int .i64 t22.1.Second), (.int .i64 t22.1.W1), (.int .i64 t22.1.W2)] hO rfl rfl rfl siz96 rfl (Nat.le_of_ble_eq_true rfl) (by simp [Value.oneCell', vs]) ?_
   intro w29 hO
   refine val (x_assign (.bool t22.2) rfl) ?_
   refine nil (region (val (x_move (.slice A10 v9.length c11) f5_1) ?_))
   refine val (x_fa rfl fo96_0) ?_
   refine val (x_ld 2 (.int .i64 t22.1.First) hO rfl rfl rfl one3) ?_
   refine val (x_fa rfl fo96_1) ?_
   refine val (x_ld 2 (.int .i64 t22.1.Second) hO rfl rfl rfl one3) ?_
   have hr30 : Enc.rep (eArr 2 (eInt .i64)) H24 ([(.int .i64 t22.1.First), (.int .i64 t22.1.Second)] : List Value) [t22.1.First, t22.1.Second] := ⟨(Rows.cons (c1 := ([(.int .i64 t22.1.First)] : List Value)) rfl (Rows.cons (c1 := ([(.int .i64 t22.1.Second)] : List Value)) rfl Rows.nil)), rfl⟩
   refine val (x_build [(0, (.int .i64 t22.1.First)), (1, (.int .i64 t22.1.Second))] ([(.int .i64 t22.1.First), (.int .i64 t22.1.Second)] : List Value) ⟨rfl, rfl, rfl, rfl, trivial⟩ (by kernel_rfl)) ?_
   refine o_litT (en := (eArr 2 (eInt .i64))) 3 [(.agg #[(.int .i64 t22.1.First), (.int .i64 t22.1.Second)])] ([[t22.1.First, t22.1.Second]] : List (List Int)) hO sli94 ⟨hr30, trivial⟩ rfl rfl rfl ?_
   intro g31 cs32 w33 hr34 hO
   refine o_appT (en := (eArr 2 (eInt .i64))) (xs := v9) (ys := ([[t22.1.First, t22.1.Second]] : List (List Int))) 1 hO rfl (h13.up le26) rfl rfl (Src.row (k := 3) hO rfl) hr34 sli94 rfl rfl underlying94 hm1 ?_
   intro A35 c36 cs37 w38 hr39 hO hm1
   refine val (x_assign (.slice A35 (v9 ++ ([[t22.1.First, t22.1.Second]] : List (List Int))).length c36) rfl) ?_
   refine nil (region (val (x_add f16_1 rfl) ?_))
   refine val (x_move (.int .i64 (i64w ((i6 : Int) + 1))) rfl) ?_
   refine nil ?_
   exact ⟨_, Nat.lt_succ_self _, i6 + 1, rest7, (v9 ++ ([[t22.1.First, t22.1.Second]] : List (List Int))), A35, c36, cs37, H24, rfl, hnx, hm1, (le5.trans le26), hO.pick _ ⟨rfl, rfl, trivial⟩, f1_1, f2_1, rfl, f14_1, f15_1, (incv hinc), hr39⟩
 ·intro r w
  rintro ⟨v42, A43, c44, cs46, i47, H40, rfl, le41, hO, f48, f49, f50, h45⟩
  refine seq (region (val (x_assign (.slice none 0 0) rfl) ?_))
  refine nil (seq (seq (region (val (x_assign (.int .i64 0) rfl) ?_))))
  refine nil ?_
  obtain ⟨H51, le52, h53, hO⟩ := hO.freezeRow (en := (eArr 2 (eInt .i64))) 1 rfl rfl rfl h45
  have hO := hO.nilRowT (α := ModelPart) 4 none 102 eModelPart
  obtain ⟨o54, hm1, hm0⟩ := bindSome hm0
  have hO := hO.pick [(0, .blk g1 [(.slice A1_ p0.Gate.length c1_), (.slice A2_ p0.Experts.length c2_), (.int .i64 p0.Capacity)] 41), (4, .row none 0 102 eModelPart.size ([] : List ModelPart).length [])] ⟨rfl, rfl, trivial⟩
  refine W.blockLoop (fun r w => ∃ (v60 : List ModelPart) (A61 : Option Addr) (c62 : Nat) (cs63 : List Value) (v65 : Int) (H55 : IHeap), (v60, v65) = o54 ∧ Le H51 H55 ∧ St w0 H0 [] H55 (ol [(0, .blk g1 [(.slice A1_ p0.Gate.length c1_), (.slice A2_ p0.Experts.length c2_), (.int .i64 p0.Capacity)] 41), (4, .row A61 c62 102 eModelPart.size v60.length cs63)]) w ∧ r 10 = (.slice A61 v60.length c62) ∧ Rows eModelPart H55 cs63 v60) (fun k r w => ∃ (rest58 : Nat) (v60 : List ModelPart) (A61 : Option Addr) (c62 : Nat) (cs63 : List Value) (v65 : Int) (H55 : IHeap), rest58 = k ∧ switchboardref15_Parts_l2 p0 p1 v42 rest58 v60 v65 = some o54 ∧ Le H51 H55 ∧ St w0 H0 [] H55 (ol [(0, .blk g1 [(.slice A1_ p0.Gate.length c1_), (.slice A2_ p0.Experts.length c2_), (.int .i64 p0.Capacity)] 41), (4, .row A61 c62 102 eModelPart.size v60.length cs63)]) w ∧ r 1 = (.slice A3_ p1.length c3_) ∧ r 2 = (.pointer (some ⟨g1, 0, none⟩)) ∧ r 5 = (.slice A43 v42.length c44) ∧ r 10 = (.slice A61 v60.length c62) ∧ r 11 = (.int .i64 v65) ∧ Rows eModelPart H55 cs63 v60) FUEL ?_ ?_ ?_
  ·exact ⟨_, ([] : List ModelPart), none, 0, [], 0, _, rfl, hm1, Le.refl _, hO, f48, f49, f50, rfl, rfl, Rows.nil⟩
  ·
   intro k r w
   rintro ⟨rest58, v60, A61, c62, cs63, v65, H55, rfl, hm1, le56, hO, f1_2, f2_2, f5_2, f10_2, f11_2, h64⟩
   cases rest58 with
   | zero => rw [switchboardref15_Parts_l2] at hm1; cases hm1
   | succ rest58 =>
    rw [switchboardref15_Parts_l2] at hm1
    refine seq (seq (region (val (x_move (.int .i64 v65) f11_2) ?_)))
    refine val (x_move (.slice A3_ p1.length c3_) f1_2) ?_
    refine val (x_len rfl underlying25) ?_
    refine val (x_lss rfl rfl) ?_
    refine nil (test rfl hm1 ?_ ?_)
    ·intro hb66 hm1
     refine skip (seq (W.block ?_))
     refine seq ?_
     have hO := hO.pick [(0, .blk g1 [(.slice A1_ p0.Gate.length c1_), (.slice A2_ p0.Experts.length c2_), (.int .i64 p0.Capacity)] 41), (4, .row A61 c62 102 eModelPart.size v60.length cs63)] ⟨rfl, rfl, trivial⟩
     refine W.draw (SD w0 H0 [] H55 [(0, .blk g1 [(.slice A1_ p0.Gate.length c1_), (.slice A2_ p0.Experts.length c2_), (.int .i64 p0.Capacity)] 41)]) (fun i => ([] : List Nat).contains i) mixed 13 rfl _ rfl ?_
     intro w67 hh1 hh2 hh3 hh4; have hO := hO.same hh1 hh2 hh3 hh4; clear hh1 hh2 hh3 hh4
     have hS : SD w0 H0 [] H55 [(0, .blk g1 [(.slice A1_ p0.Gate.length c1_), (.slice A2_ p0.Experts.length c2_), (.int .i64 p0.Capacity)] 41)] w67 := ⟨_, _, Le.refl _, hO, ⟨rfl, trivial⟩⟩
     refine take (i := 0) rfl (by kernel_rfl) (fun w hS => x_fa f2_2 fo41_0) hS ?_
     refine take (i := 1) rfl (by kernel_rfl) (fun w hS => x_ldD 0 (.slice A1_ p0.Gate.length c1_) hS rfl rfl rfl one25) hS ?_
     refine take (i := 2) rfl (by kernel_rfl) (fun w hS => x_move (.slice A3_ p1.length c3_) f1_2) hS ?_
     refine take (i := 3) rfl (by kernel_rfl) (fun w hS => x_move (.int .i64 v65) f11_2) hS ?_
     obtain ⟨hin71, hm1⟩ := chk hm1
     obtain ⟨a68, h69, hA70⟩ := RS.at_ (h3_.up (le41.trans (le52.trans le56))) hin71
     refine take (i := 4) rfl (by kernel_rfl) (fun w hS => x_ia (sA rfl hA70) rfl sle25 hin71) hS ?_
     obtain ⟨A72, c73, h74, hc75⟩ := At.sl h69
     refine take (i := 5) rfl (by kernel_rfl) (fun w hS => x_ldc rfl (hc75 _ hS.sub) one61) hS ?_
     obtain ⟨t76, ht77, hm1⟩ := bindSome hm1
     refine WA.all [6, 10] (by kernel_rfl) (by simp) ?_
     intro i hi; simp only [List.mem_cons, List.not_mem_nil, or_false] at hi
     rcases hi with rfl | rfl
     ·refine ⟨_, rfl, ?_⟩
      refine o_call hO go42 (switchboardref13_Choose_ok hO.sub (h1_.up (le41.trans (le52.trans le56))) h74 ht77) rfl ?_
      rintro _ H78 w79 le80 rfl hO
      have hS : SD w0 H0 [] H55 [(0, .blk g1 [(.slice A1_ p0.Gate.length c1_), (.slice A2_ p0.Experts.length c2_), (.int .i64 p0.Capacity)] 41)] _ := ⟨_, _, le80, hO, ⟨rfl, trivial⟩⟩
      refine nil ⟨fun _ => hS, ?_⟩
      refine take (i := 7) rfl (by kernel_rfl) (fun w hS => x_move (.tuple #[(.agg #[(.int .i64 t76.1.First), (.int .i64 t76.1.Second), (.int .i64 t76.1.W1), (.int .i64 t76.1.W2)]), (.bool t76.2)]) rfl) hS ?_
      refine take (i := 8) rfl (by kernel_rfl) (fun w hS => x_extract (.agg #[(.int .i64 t76.1.First), (.int .i64 t76.1.Second), (.int .i64 t76.1.W1), (.int .i64 t76.1.W2)]) rfl rfl) hS ?_
      refine take (i := 9) rfl (by kernel_rfl) (fun w hS => x_extract (.bool t76.2) rfl rfl) hS ?_
      refine WA.only (i := 10) (by kernel_rfl) rfl ?_
      refine o_alloc 5 _ [(.int .i64 0), (.int .i64 0), (.int .i64 0), (.int .i64 0)] zer96 hO rfl ?_
      intro g81 w82 hO
      have hS : SD w0 H0 [] H55 [(0, .blk g1 [(.slice A1_ p0.Gate.length c1_), (.slice A2_ p0.Experts.length c2_), (.int .i64 p0.Capacity)] 41)] _ := ⟨_, _, le80, hO, ⟨rfl, trivial⟩⟩
      refine nil ⟨fun _ => hS, ?_⟩
      refine WA.only (i := 11) (by kernel_rfl) rfl ?_
      refine o_sts 5 [(.int .i64 t76.1.First), (.int .i64 t76.1.Second), (.int .i64 t76.1.W1), (.int .i64 t76.1.W2)] hO rfl rfl rfl siz96 rfl (Nat.le_of_ble_eq_true rfl) (by simp [Value.oneCell', vs]) ?_
      intro w83 hO
      have hS : SD w0 H0 [] H55 [(0, .blk g1 [(.slice A1_ p0.Gate.length c1_), (.slice A2_ p0.Experts.length c2_), (.int .i64 p0.Capacity)] 41)] _ := ⟨_, _, le80, hO, ⟨rfl, trivial⟩⟩
      refine nil ⟨fun _ => hS, ?_⟩
      refine take (i := 12) rfl (by kernel_rfl) (fun w hS => x_assign (.bool t76.2) rfl) hS ?_
      refine WA.done (by kernel_rfl) ?_
      refine seq (seq (region (val (x_move (.slice A43 v42.length c44) f5_2) ?_)))
      refine val (x_fa f2_2 fo41_1) ?_
      refine val (x_ld 0 (.slice A2_ p0.Experts.length c2_) hO rfl rfl rfl one39) ?_
      refine val (x_len rfl underlying39) ?_
      refine val (x_fa f2_2 fo41_2) ?_
      refine val (x_ld 0 (.int .i64 p0.Capacity) hO rfl rfl rfl one3) ?_
      refine val (x_move (.int .i64 v65) f11_2) ?_
      obtain ⟨t84, ht85, hm1⟩ := bindSome hm1
      refine o_call hO go43 (switchboardref14_Slot_ok hO.sub (h53.up (le56.trans le80)) ht85) rfl ?_
      rintro _ H86 w87 le88 rfl hO
      refine val (x_geq rfl rfl) ?_
      refine nil (test rfl hm1 ?_ ?_)
      ·intro hb89 hm1
       refine region (val (x_move (.slice A61 v60.length c62) f10_2) ?_)
       refine val (x_move (.int .i64 v65) f11_2) ?_
       refine val (x_fa rfl fo96_0) ?_
       refine val (x_ld 5 (.int .i64 t76.1.First) hO rfl rfl rfl one3) ?_
       refine val (x_fa rfl fo96_2) ?_
       refine val (x_ld 5 (.int .i64 t76.1.W1) hO rfl rfl rfl one3) ?_
       refine val (x_build [(0, (.int .i64 v65)), (1, (.int .i64 0)), (2, (.int .i64 t76.1.First)), (3, (.int .i64 t76.1.W1))] [(.int .i64 v65), (.int .i64 0), (.int .i64 t76.1.First), (.int .i64 t76.1.W1)] ⟨rfl, rfl, rfl, rfl, rfl, rfl, rfl, rfl, trivial⟩ (by kernel_rfl)) ?_
       refine o_litT (en := eModelPart) 6 [(.agg #[(.int .i64 v65), (.int .i64 0), (.int .i64 t76.1.First), (.int .i64 t76.1.W1)])] ([(⟨v65, 0, t76.1.First, t76.1.W1⟩ : ModelPart)] : List ModelPart) hO sli37 ⟨rfl, trivial⟩ rfl rfl rfl ?_
       intro g90 cs91 w92 hr93 hO
       refine o_appT (en := eModelPart) (xs := v60) (ys := ([(⟨v65, 0, t76.1.First, t76.1.W1⟩ : ModelPart)] : List ModelPart)) 4 hO rfl (h64.up (le80.trans le88)) rfl rfl (Src.row (k := 6) hO rfl) hr93 sli37 rfl rfl underlying37 hm1 ?_
       intro A94 c95 cs96 w97 hr98 hO hm1
       refine val (x_assign (.slice A94 (v60 ++ ([(⟨v65, 0, t76.1.First, t76.1.W1⟩ : ModelPart)] : List ModelPart)).length c95) rfl) ?_
       refine nil (seq (region (val (x_move (.slice A43 v42.length c44) f5_2) ?_)))
       refine val (x_fa f2_2 fo41_1) ?_
       refine val (x_ld 0 (.slice A2_ p0.Experts.length c2_) hO rfl rfl rfl one39) ?_
       refine val (x_len rfl underlying39) ?_
       refine val (x_fa f2_2 fo41_2) ?_
       refine val (x_ld 0 (.int .i64 p0.Capacity) hO rfl rfl rfl one3) ?_
       refine val (x_move (.int .i64 v65) f11_2) ?_
       obtain ⟨t99, ht100, hm1⟩ := bindSome hm1
       refine o_call hO go43 (switchboardref14_Slot_ok hO.sub (h53.up (le56.trans (le80.trans le88))) ht100) rfl ?_
       rintro _ H101 w102 le103 rfl hO
       refine val (x_geq rfl rfl) ?_
       refine nil (test rfl hm1 ?_ ?_)
       ·intro hb104 hm1
        refine region (val (x_move (.slice A94 (v60 ++ ([(⟨v65, 0, t76.1.First, t76.1.W1⟩ : ModelPart)] : List ModelPart)).length c95) rfl) ?_)
        refine val (x_move (.int .i64 v65) f11_2) ?_
        refine val (x_fa rfl fo96_1) ?_
        refine val (x_ld 5 (.int .i64 t76.1.Second) hO rfl rfl rfl one3) ?_
        refine val (x_fa rfl fo96_3) ?_
        refine val (x_ld 5 (.int .i64 t76.1.W2) hO rfl rfl rfl one3) ?_
        refine val (x_build [(0, (.int .i64 v65)), (1, (.int .i64 1)), (2, (.int .i64 t76.1.Second)), (3, (.int .i64 t76.1.W2))] [(.int .i64 v65), (.int .i64 1), (.int .i64 t76.1.Second), (.int .i64 t76.1.W2)] ⟨rfl, rfl, rfl, rfl, rfl, rfl, rfl, rfl, trivial⟩ (by kernel_rfl)) ?_
        refine o_litT (en := eModelPart) 7 [(.agg #[(.int .i64 v65), (.int .i64 1), (.int .i64 t76.1.Second), (.int .i64 t76.1.W2)])] ([(⟨v65, 1, t76.1.Second, t76.1.W2⟩ : ModelPart)] : List ModelPart) hO sli37 ⟨rfl, trivial⟩ rfl rfl rfl ?_
        intro g105 cs106 w107 hr108 hO
        refine o_appT (en := eModelPart) (xs := (v60 ++ ([(⟨v65, 0, t76.1.First, t76.1.W1⟩ : ModelPart)] : List ModelPart))) (ys := ([(⟨v65, 1, t76.1.Second, t76.1.W2⟩ : ModelPart)] : List ModelPart)) 4 hO rfl (hr98.up le103) rfl rfl (Src.row (k := 7) hO rfl) hr108 sli37 rfl rfl underlying37 hm1 ?_
        intro A109 c110 cs111 w112 hr113 hO hm1
        refine val (x_assign (.slice A109 ((v60 ++ ([(⟨v65, 0, t76.1.First, t76.1.W1⟩ : ModelPart)] : List ModelPart)) ++ ([(⟨v65, 1, t76.1.Second, t76.1.W2⟩ : ModelPart)] : List ModelPart)).length c110) rfl) ?_
        refine nil (region (val (x_move (.int .i64 v65) f11_2) ?_))
        refine val (x_add rfl rfl) ?_
        refine val (x_assign (.int .i64 (i64w (v65 + 1))) rfl) ?_
        refine nil ?_
        exact ⟨_, Nat.lt_succ_self _, rest58, ((v60 ++ ([(⟨v65, 0, t76.1.First, t76.1.W1⟩ : ModelPart)] : List ModelPart)) ++ ([(⟨v65, 1, t76.1.Second, t76.1.W2⟩ : ModelPart)] : List ModelPart)), A109, c110, cs111, i64w (v65 + 1), H101, rfl, hm1, (le56.trans (le80.trans (le88.trans le103))), hO.pick _ ⟨rfl, rfl, trivial⟩, f1_2, f2_2, f5_2, rfl, rfl, hr113⟩
       ·intro hb104 hm1
        refine skip (region (val (x_move (.int .i64 v65) f11_2) ?_))
        refine val (x_add rfl rfl) ?_
        refine val (x_assign (.int .i64 (i64w (v65 + 1))) rfl) ?_
        refine nil ?_
        exact ⟨_, Nat.lt_succ_self _, rest58, (v60 ++ ([(⟨v65, 0, t76.1.First, t76.1.W1⟩ : ModelPart)] : List ModelPart)), A94, c95, cs96, i64w (v65 + 1), H101, rfl, hm1, (le56.trans (le80.trans (le88.trans le103))), hO.pick _ ⟨rfl, rfl, trivial⟩, f1_2, f2_2, f5_2, rfl, rfl, (hr98.up le103)⟩
      ·intro hb89 hm1
       refine skip (seq (region (val (x_move (.slice A43 v42.length c44) f5_2) ?_)))
       refine val (x_fa f2_2 fo41_1) ?_
       refine val (x_ld 0 (.slice A2_ p0.Experts.length c2_) hO rfl rfl rfl one39) ?_
       refine val (x_len rfl underlying39) ?_
       refine val (x_fa f2_2 fo41_2) ?_
       refine val (x_ld 0 (.int .i64 p0.Capacity) hO rfl rfl rfl one3) ?_
       refine val (x_move (.int .i64 v65) f11_2) ?_
       obtain ⟨t114, ht115, hm1⟩ := bindSome hm1
       refine o_call hO go43 (switchboardref14_Slot_ok hO.sub (h53.up (le56.trans (le80.trans le88))) ht115) rfl ?_
       rintro _ H116 w117 le118 rfl hO
       refine val (x_geq rfl rfl) ?_
       refine nil (test rfl hm1 ?_ ?_)
       ·intro hb119 hm1
        refine region (val (x_move (.slice A61 v60.length c62) f10_2) ?_)
        refine val (x_move (.int .i64 v65) f11_2) ?_
        refine val (x_fa rfl fo96_1) ?_
        refine val (x_ld 5 (.int .i64 t76.1.Second) hO rfl rfl rfl one3) ?_
        refine val (x_fa rfl fo96_3) ?_
        refine val (x_ld 5 (.int .i64 t76.1.W2) hO rfl rfl rfl one3) ?_
        refine val (x_build [(0, (.int .i64 v65)), (1, (.int .i64 1)), (2, (.int .i64 t76.1.Second)), (3, (.int .i64 t76.1.W2))] [(.int .i64 v65), (.int .i64 1), (.int .i64 t76.1.Second), (.int .i64 t76.1.W2)] ⟨rfl, rfl, rfl, rfl, rfl, rfl, rfl, rfl, trivial⟩ (by kernel_rfl)) ?_
        refine o_litT (en := eModelPart) 8 [(.agg #[(.int .i64 v65), (.int .i64 1), (.int .i64 t76.1.Second), (.int .i64 t76.1.W2)])] ([(⟨v65, 1, t76.1.Second, t76.1.W2⟩ : ModelPart)] : List ModelPart) hO sli37 ⟨rfl, trivial⟩ rfl rfl rfl ?_
        intro g120 cs121 w122 hr123 hO
        refine o_appT (en := eModelPart) (xs := v60) (ys := ([(⟨v65, 1, t76.1.Second, t76.1.W2⟩ : ModelPart)] : List ModelPart)) 4 hO rfl (h64.up (le80.trans (le88.trans le118))) rfl rfl (Src.row (k := 8) hO rfl) hr123 sli37 rfl rfl underlying37 hm1 ?_
        intro A124 c125 cs126 w127 hr128 hO hm1
        refine val (x_assign (.slice A124 (v60 ++ ([(⟨v65, 1, t76.1.Second, t76.1.W2⟩ : ModelPart)] : List ModelPart)).length c125) rfl) ?_
        refine nil (region (val (x_move (.int .i64 v65) f11_2) ?_))
        refine val (x_add rfl rfl) ?_
        refine val (x_assign (.int .i64 (i64w (v65 + 1))) rfl) ?_
        refine nil ?_
        exact ⟨_, Nat.lt_succ_self _, rest58, (v60 ++ ([(⟨v65, 1, t76.1.Second, t76.1.W2⟩ : ModelPart)] : List ModelPart)), A124, c125, cs126, i64w (v65 + 1), H116, rfl, hm1, (le56.trans (le80.trans (le88.trans le118))), hO.pick _ ⟨rfl, rfl, trivial⟩, f1_2, f2_2, f5_2, rfl, rfl, hr128⟩
       ·intro hb119 hm1
        refine skip (region (val (x_move (.int .i64 v65) f11_2) ?_))
        refine val (x_add rfl rfl) ?_
        refine val (x_assign (.int .i64 (i64w (v65 + 1))) rfl) ?_
        refine nil ?_
        exact ⟨_, Nat.lt_succ_self _, rest58, v60, A61, c62, cs63, i64w (v65 + 1), H116, rfl, hm1, (le56.trans (le80.trans (le88.trans le118))), hO.pick _ ⟨rfl, rfl, trivial⟩, f1_2, f2_2, f5_2, f10_2, rfl, (h64.up (le80.trans (le88.trans le118)))⟩
     ·refine ⟨_, rfl, ?_⟩
      refine o_alloc 9 _ [(.int .i64 0), (.int .i64 0), (.int .i64 0), (.int .i64 0)] zer96 hO rfl ?_
      intro g78 w79 hO
      have hS : SD w0 H0 [] H55 [(0, .blk g1 [(.slice A1_ p0.Gate.length c1_), (.slice A2_ p0.Experts.length c2_), (.int .i64 p0.Capacity)] 41)] _ := ⟨_, _, (Le.refl _), hO, ⟨rfl, trivial⟩⟩
      refine nil ⟨fun _ => hS, ?_⟩
      refine WA.only (i := 6) (by kernel_rfl) rfl ?_
      refine o_call hO go42 (switchboardref13_Choose_ok hO.sub (h1_.up (le41.trans (le52.trans le56))) h74 ht77) rfl ?_
      rintro _ H80 w81 le82 rfl hO
      have hS : SD w0 H0 [] H55 [(0, .blk g1 [(.slice A1_ p0.Gate.length c1_), (.slice A2_ p0.Experts.length c2_), (.int .i64 p0.Capacity)] 41)] _ := ⟨_, _, le82, hO, ⟨rfl, trivial⟩⟩
      refine nil ⟨fun _ => hS, ?_⟩
      refine take (i := 7) rfl (by kernel_rfl) (fun w hS => x_move (.tuple #[(.agg #[(.int .i64 t76.1.First), (.int .i64 t76.1.Second), (.int .i64 t76.1.W1), (.int .i64 t76.1.W2)]), (.bool t76.2)]) rfl) hS ?_
      refine take (i := 8) rfl (by kernel_rfl) (fun w hS => x_extract (.agg #[(.int .i64 t76.1.First), (.int .i64 t76.1.Second), (.int .i64 t76.1.W1), (.int .i64 t76.1.W2)]) rfl rfl) hS ?_
      refine take (i := 9) rfl (by kernel_rfl) (fun w hS => x_extract (.bool t76.2) rfl rfl) hS ?_
      refine WA.only (i := 11) (by kernel_rfl) rfl ?_
      refine o_sts 9 [(.int .i64 t76.1.First), (.int .i64 t76.1.Second), (.int .i64 t76.1.W1), (.int .i64 t76.1.W2)] hO rfl rfl rfl siz96 rfl (Nat.le_of_ble_eq_true rfl) (by simp [Value.oneCell', vs]) ?_
      intro w83 hO
      have hS : SD w0 H0 [] H55 [(0, .blk g1 [(.slice A1_ p0.Gate.length c1_), (.slice A2_ p0.Experts.length c2_), (.int .i64 p0.Capacity)] 41)] _ := ⟨_, _, le82, hO, ⟨rfl, trivial⟩⟩
      refine nil ⟨fun _ => hS, ?_⟩
      refine take (i := 12) rfl (by kernel_rfl) (fun w hS => x_assign (.bool t76.2) rfl) hS ?_
      refine WA.done (by kernel_rfl) ?_
      refine seq (seq (region (val (x_move (.slice A43 v42.length c44) f5_2) ?_)))
      refine val (x_fa f2_2 fo41_1) ?_
      refine val (x_ld 0 (.slice A2_ p0.Experts.length c2_) hO rfl rfl rfl one39) ?_
      refine val (x_len rfl underlying39) ?_
      refine val (x_fa f2_2 fo41_2) ?_
      refine val (x_ld 0 (.int .i64 p0.Capacity) hO rfl rfl rfl one3) ?_
      refine val (x_move (.int .i64 v65) f11_2) ?_
      obtain ⟨t84, ht85, hm1⟩ := bindSome hm1
      refine o_call hO go43 (switchboardref14_Slot_ok hO.sub (h53.up (le56.trans le82)) ht85) rfl ?_
      rintro _ H86 w87 le88 rfl hO
      refine val (x_geq rfl rfl) ?_
      refine nil (test rfl hm1 ?_ ?_)
      ·intro hb89 hm1
       refine region (val (x_move (.slice A61 v60.length c62) f10_2) ?_)
       refine val (x_move (.int .i64 v65) f11_2) ?_
       refine val (x_fa rfl fo96_0) ?_
       refine val (x_ld 9 (.int .i64 t76.1.First) hO rfl rfl rfl one3) ?_
       refine val (x_fa rfl fo96_2) ?_
       refine val (x_ld 9 (.int .i64 t76.1.W1) hO rfl rfl rfl one3) ?_
       refine val (x_build [(0, (.int .i64 v65)), (1, (.int .i64 0)), (2, (.int .i64 t76.1.First)), (3, (.int .i64 t76.1.W1))] [(.int .i64 v65), (.int .i64 0), (.int .i64 t76.1.First), (.int .i64 t76.1.W1)] ⟨rfl, rfl, rfl, rfl, rfl, rfl, rfl, rfl, trivial⟩ (by kernel_rfl)) ?_
       refine o_litT (en := eModelPart) 10 [(.agg #[(.int .i64 v65), (.int .i64 0), (.int .i64 t76.1.First), (.int .i64 t76.1.W1)])] ([(⟨v65, 0, t76.1.First, t76.1.W1⟩ : ModelPart)] : List ModelPart) hO sli37 ⟨rfl, trivial⟩ rfl rfl rfl ?_
       intro g90 cs91 w92 hr93 hO
       refine o_appT (en := eModelPart) (xs := v60) (ys := ([(⟨v65, 0, t76.1.First, t76.1.W1⟩ : ModelPart)] : List ModelPart)) 4 hO rfl (h64.up (le82.trans le88)) rfl rfl (Src.row (k := 10) hO rfl) hr93 sli37 rfl rfl underlying37 hm1 ?_
       intro A94 c95 cs96 w97 hr98 hO hm1
       refine val (x_assign (.slice A94 (v60 ++ ([(⟨v65, 0, t76.1.First, t76.1.W1⟩ : ModelPart)] : List ModelPart)).length c95) rfl) ?_
       refine nil (seq (region (val (x_move (.slice A43 v42.length c44) f5_2) ?_)))
       refine val (x_fa f2_2 fo41_1) ?_
       refine val (x_ld 0 (.slice A2_ p0.Experts.length c2_) hO rfl rfl rfl one39) ?_
       refine val (x_len rfl underlying39) ?_
       refine val (x_fa f2_2 fo41_2) ?_
       refine val (x_ld 0 (.int .i64 p0.Capacity) hO rfl rfl rfl one3) ?_
       refine val (x_move (.int .i64 v65) f11_2) ?_
       obtain ⟨t99, ht100, hm1⟩ := bindSome hm1
       refine o_call hO go43 (switchboardref14_Slot_ok hO.sub (h53.up (le56.trans (le82.trans le88))) ht100) rfl ?_
       rintro _ H101 w102 le103 rfl hO
       refine val (x_geq rfl rfl) ?_
       refine nil (test rfl hm1 ?_ ?_)
       ·intro hb104 hm1
        refine region (val (x_move (.slice A94 (v60 ++ ([(⟨v65, 0, t76.1.First, t76.1.W1⟩ : ModelPart)] : List ModelPart)).length c95) rfl) ?_)
        refine val (x_move (.int .i64 v65) f11_2) ?_
        refine val (x_fa rfl fo96_1) ?_
        refine val (x_ld 9 (.int .i64 t76.1.Second) hO rfl rfl rfl one3) ?_
        refine val (x_fa rfl fo96_3) ?_
        refine val (x_ld 9 (.int .i64 t76.1.W2) hO rfl rfl rfl one3) ?_
        refine val (x_build [(0, (.int .i64 v65)), (1, (.int .i64 1)), (2, (.int .i64 t76.1.Second)), (3, (.int .i64 t76.1.W2))] [(.int .i64 v65), (.int .i64 1), (.int .i64 t76.1.Second), (.int .i64 t76.1.W2)] ⟨rfl, rfl, rfl, rfl, rfl, rfl, rfl, rfl, trivial⟩ (by kernel_rfl)) ?_
        refine o_litT (en := eModelPart) 11 [(.agg #[(.int .i64 v65), (.int .i64 1), (.int .i64 t76.1.Second), (.int .i64 t76.1.W2)])] ([(⟨v65, 1, t76.1.Second, t76.1.W2⟩ : ModelPart)] : List ModelPart) hO sli37 ⟨rfl, trivial⟩ rfl rfl rfl ?_
        intro g105 cs106 w107 hr108 hO
        refine o_appT (en := eModelPart) (xs := (v60 ++ ([(⟨v65, 0, t76.1.First, t76.1.W1⟩ : ModelPart)] : List ModelPart))) (ys := ([(⟨v65, 1, t76.1.Second, t76.1.W2⟩ : ModelPart)] : List ModelPart)) 4 hO rfl (hr98.up le103) rfl rfl (Src.row (k := 11) hO rfl) hr108 sli37 rfl rfl underlying37 hm1 ?_
        intro A109 c110 cs111 w112 hr113 hO hm1
        refine val (x_assign (.slice A109 ((v60 ++ ([(⟨v65, 0, t76.1.First, t76.1.W1⟩ : ModelPart)] : List ModelPart)) ++ ([(⟨v65, 1, t76.1.Second, t76.1.W2⟩ : ModelPart)] : List ModelPart)).length c110) rfl) ?_
        refine nil (region (val (x_move (.int .i64 v65) f11_2) ?_))
        refine val (x_add rfl rfl) ?_
        refine val (x_assign (.int .i64 (i64w (v65 + 1))) rfl) ?_
        refine nil ?_
        exact ⟨_, Nat.lt_succ_self _, rest58, ((v60 ++ ([(⟨v65, 0, t76.1.First, t76.1.W1⟩ : ModelPart)] : List ModelPart)) ++ ([(⟨v65, 1, t76.1.Second, t76.1.W2⟩ : ModelPart)] : List ModelPart)), A109, c110, cs111, i64w (v65 + 1), H101, rfl, hm1, (le56.trans (le82.trans (le88.trans le103))), hO.pick _ ⟨rfl, rfl, trivial⟩, f1_2, f2_2, f5_2, rfl, rfl, hr113⟩
       ·intro hb104 hm1
        refine skip (region (val (x_move (.int .i64 v65) f11_2) ?_))
        refine val (x_add rfl rfl) ?_
        refine val (x_assign (.int .i64 (i64w (v65 + 1))) rfl) ?_
        refine nil ?_
        exact ⟨_, Nat.lt_succ_self _, rest58, (v60 ++ ([(⟨v65, 0, t76.1.First, t76.1.W1⟩ : ModelPart)] : List ModelPart)), A94, c95, cs96, i64w (v65 + 1), H101, rfl, hm1, (le56.trans (le82.trans (le88.trans le103))), hO.pick _ ⟨rfl, rfl, trivial⟩, f1_2, f2_2, f5_2, rfl, rfl, (hr98.up le103)⟩
      ·intro hb89 hm1
       refine skip (seq (region (val (x_move (.slice A43 v42.length c44) f5_2) ?_)))
       refine val (x_fa f2_2 fo41_1) ?_
       refine val (x_ld 0 (.slice A2_ p0.Experts.length c2_) hO rfl rfl rfl one39) ?_
       refine val (x_len rfl underlying39) ?_
       refine val (x_fa f2_2 fo41_2) ?_
       refine val (x_ld 0 (.int .i64 p0.Capacity) hO rfl rfl rfl one3) ?_
       refine val (x_move (.int .i64 v65) f11_2) ?_
       obtain ⟨t114, ht115, hm1⟩ := bindSome hm1
       refine o_call hO go43 (switchboardref14_Slot_ok hO.sub (h53.up (le56.trans (le82.trans le88))) ht115) rfl ?_
       rintro _ H116 w117 le118 rfl hO
       refine val (x_geq rfl rfl) ?_
       refine nil (test rfl hm1 ?_ ?_)
       ·intro hb119 hm1
        refine region (val (x_move (.slice A61 v60.length c62) f10_2) ?_)
        refine val (x_move (.int .i64 v65) f11_2) ?_
        refine val (x_fa rfl fo96_1) ?_
        refine val (x_ld 9 (.int .i64 t76.1.Second) hO rfl rfl rfl one3) ?_
        refine val (x_fa rfl fo96_3) ?_
        refine val (x_ld 9 (.int .i64 t76.1.W2) hO rfl rfl rfl one3) ?_
        refine val (x_build [(0, (.int .i64 v65)), (1, (.int .i64 1)), (2, (.int .i64 t76.1.Second)), (3, (.int .i64 t76.1.W2))] [(.int .i64 v65), (.int .i64 1), (.int .i64 t76.1.Second), (.int .i64 t76.1.W2)] ⟨rfl, rfl, rfl, rfl, rfl, rfl, rfl, rfl, trivial⟩ (by kernel_rfl)) ?_
        refine o_litT (en := eModelPart) 12 [(.agg #[(.int .i64 v65), (.int .i64 1), (.int .i64 t76.1.Second), (.int .i64 t76.1.W2)])] ([(⟨v65, 1, t76.1.Second, t76.1.W2⟩ : ModelPart)] : List ModelPart) hO sli37 ⟨rfl, trivial⟩ rfl rfl rfl ?_
        intro g120 cs121 w122 hr123 hO
        refine o_appT (en := eModelPart) (xs := v60) (ys := ([(⟨v65, 1, t76.1.Second, t76.1.W2⟩ : ModelPart)] : List ModelPart)) 4 hO rfl (h64.up (le82.trans (le88.trans le118))) rfl rfl (Src.row (k := 12) hO rfl) hr123 sli37 rfl rfl underlying37 hm1 ?_
        intro A124 c125 cs126 w127 hr128 hO hm1
        refine val (x_assign (.slice A124 (v60 ++ ([(⟨v65, 1, t76.1.Second, t76.1.W2⟩ : ModelPart)] : List ModelPart)).length c125) rfl) ?_
        refine nil (region (val (x_move (.int .i64 v65) f11_2) ?_))
        refine val (x_add rfl rfl) ?_
        refine val (x_assign (.int .i64 (i64w (v65 + 1))) rfl) ?_
        refine nil ?_
        exact ⟨_, Nat.lt_succ_self _, rest58, (v60 ++ ([(⟨v65, 1, t76.1.Second, t76.1.W2⟩ : ModelPart)] : List ModelPart)), A124, c125, cs126, i64w (v65 + 1), H116, rfl, hm1, (le56.trans (le82.trans (le88.trans le118))), hO.pick _ ⟨rfl, rfl, trivial⟩, f1_2, f2_2, f5_2, rfl, rfl, hr128⟩
       ·intro hb119 hm1
        refine skip (region (val (x_move (.int .i64 v65) f11_2) ?_))
        refine val (x_add rfl rfl) ?_
        refine val (x_assign (.int .i64 (i64w (v65 + 1))) rfl) ?_
        refine nil ?_
        exact ⟨_, Nat.lt_succ_self _, rest58, v60, A61, c62, cs63, i64w (v65 + 1), H116, rfl, hm1, (le56.trans (le82.trans (le88.trans le118))), hO.pick _ ⟨rfl, rfl, trivial⟩, f1_2, f2_2, f5_2, f10_2, rfl, (h64.up (le82.trans (le88.trans le118)))⟩
    ·intro hb66 hm1
     refine W.exit _ rfl ?_
     obtain rfl := sj hm1
     exact ⟨v60, A61, c62, cs63, v65, H55, rfl, le56, hO.pick _ ⟨rfl, rfl, trivial⟩, f10_2, h64⟩
  ·intro r w
   rintro ⟨v131, A132, c133, cs135, v136, H129, rfl, le130, hO, f138, h134⟩
   dsimp only at hm0
   refine seq (region (val (x_move (.slice A132 v131.length c133) f138) ?_))
   refine val (x_assign (.slice A132 v131.length c133) rfl) ?_
   refine nil (W.ret ?_)
   obtain ⟨H139, le140, h141, hO⟩ := hO.freezeRow (en := eModelPart) 4 rfl rfl rfl h134
   obtain rfl := sj hm0
   exact ⟨H139, ⟨A132, c133, rfl, h141⟩, hO.done⟩
theorem switchboardref02_Add_ok {w0 : World} {H0 : IHeap} (hS : Sub H0 w0) {p0 : List Int} {p1 : List Int}  {A1_ : Option Addr} {c1_ : Nat} {A2_ : Option Addr} {c2_ : Nat} (h1_ : RS (eInt .i64) H0 A1_ c1_ p0) (h2_ : RS (eInt .i64) H0 A2_ c2_ p1) {res : (List Int)} (hm0 : switchboardref02_Add p0 p1 = some res) :
  Ok prog 44 [(.slice A1_ p0.length c1_), (.slice A2_ p1.length c2_)].toArray w0 H0 (fun H' v => ∃ (A1 : Option Addr) (c1 : Nat), v = (.slice A1 res.length c1) ∧ RS (eInt .i64) H' A1 c1 res) := by
 unfold switchboardref02_Add at hm0
 refine ok_of_W Tryz.func44 rfl Tryz.ntmps44 (ts := [4]) rfl rfl rfl ?_
 have hO := St.start hS
 refine seq (region (val (x_assign (.slice none 0 0) rfl) ?_))
 refine nil (seq (region (val (x_assign (.slice none 0 0) rfl) ?_)))
 refine nil (seq (seq (region (val (x_assign (.int .i64 0) rfl) ?_))))
 refine nil ?_
 have hO := hO.nilRowT (α := Int) 0 none 3 (eInt .i64)
 obtain ⟨o1, hm1, hm0⟩ := bindSome hm0
 have hO := hO.pick [(0, .row none 0 3 (eInt .i64).size ([] : List Int).length [])] ⟨rfl, trivial⟩
 refine W.blockLoop (fun r w => ∃ (v7 : List Int) (A8 : Option Addr) (c9 : Nat) (cs10 : List Value) (v12 : Int) (H2 : IHeap), (v7, v12) = o1 ∧ Le H0 H2 ∧ St w0 H0 [] H2 (ol [(0, .row A8 c9 3 (eInt .i64).size v7.length cs10)]) w ∧ r 5 = (.slice A8 v7.length c9) ∧ Rows (eInt .i64) H2 cs10 v7) (fun k r w => ∃ (rest5 : Nat) (v7 : List Int) (A8 : Option Addr) (c9 : Nat) (cs10 : List Value) (v12 : Int) (H2 : IHeap), rest5 = k ∧ switchboardref02_Add_l1 p0 p1 rest5 v7 v12 = some o1 ∧ Le H0 H2 ∧ St w0 H0 [] H2 (ol [(0, .row A8 c9 3 (eInt .i64).size v7.length cs10)]) w ∧ r 0 = (.slice A1_ p0.length c1_) ∧ r 1 = (.slice A2_ p1.length c2_) ∧ r 5 = (.slice A8 v7.length c9) ∧ r 6 = (.int .i64 v12) ∧ Rows (eInt .i64) H2 cs10 v7) FUEL ?_ ?_ ?_
 ·exact ⟨_, ([] : List Int), none, 0, [], 0, _, rfl, hm1, Le.refl _, hO, rfl, rfl, rfl, rfl, Rows.nil⟩
 ·
  intro k r w
  rintro ⟨rest5, v7, A8, c9, cs10, v12, H2, rfl, hm1, le3, hO, f0_1, f1_1, f5_1, f6_1, h11⟩
  cases rest5 with
  | zero => rw [switchboardref02_Add_l1] at hm1; cases hm1
  | succ rest5 =>
   rw [switchboardref02_Add_l1] at hm1
   refine seq (seq (region (val (x_move (.int .i64 v12) f6_1) ?_)))
   refine val (x_move (.slice A1_ p0.length c1_) f0_1) ?_
   refine val (x_len rfl underlying61) ?_
   refine val (x_lss rfl rfl) ?_
   refine nil (test rfl hm1 ?_ ?_)
   ·intro hb13 hm1
    refine skip (seq (W.block ?_))
    have hO := hO.pick [(0, .row A8 c9 3 (eInt .i64).size v7.length cs10)] ⟨rfl, trivial⟩
    refine W.draw (SD w0 H0 [] H2 []) (fun i => ([] : List Nat).contains i) mixed 16 rfl _ rfl ?_
    intro w14 hh1 hh2 hh3 hh4; have hO := hO.same hh1 hh2 hh3 hh4; clear hh1 hh2 hh3 hh4
    have hS : SD w0 H0 [] H2 [] w14 := ⟨_, _, Le.refl _, hO, trivial⟩
    refine take (i := 0) rfl (by kernel_rfl) (fun w hS => x_move (.slice A8 v7.length c9) f5_1) hS ?_
    refine take (i := 1) rfl (by kernel_rfl) (fun w hS => x_move (.slice A1_ p0.length c1_) f0_1) hS ?_
    refine take (i := 2) rfl (by kernel_rfl) (fun w hS => x_move (.int .i64 v12) f6_1) hS ?_
    obtain ⟨hin18, hm1⟩ := chk hm1
    obtain ⟨a15, h16, hA17⟩ := RS.at_ (h1_.up le3) hin18
    refine take (i := 3) rfl (by kernel_rfl) (fun w hS => x_ia (sA rfl hA17) rfl sle61 hin18) hS ?_
    refine take (i := 4) rfl (by kernel_rfl) (fun w hS => x_ldc rfl (h16.int _ hS.sub) one3) hS ?_
    refine take (i := 6) rfl (by kernel_rfl) (fun w hS => x_move (.slice A2_ p1.length c2_) f1_1) hS ?_
    refine take (i := 7) rfl (by kernel_rfl) (fun w hS => x_move (.int .i64 v12) f6_1) hS ?_
    obtain ⟨hin22, hm1⟩ := chk hm1
    obtain ⟨a19, h20, hA21⟩ := RS.at_ (h2_.up le3) hin22
    refine take (i := 8) rfl (by kernel_rfl) (fun w hS => x_ia (sA rfl hA21) rfl sle61 hin22) hS ?_
    refine take (i := 9) rfl (by kernel_rfl) (fun w hS => x_ldc rfl (h20.int _ hS.sub) one3) hS ?_
    refine WA.only (i := 5) (by kernel_rfl) rfl ?_
    obtain ⟨t23, ht24, hm1⟩ := bindSome hm1
    refine o_call hO go88 (switchboardref01_Hold_ok hO.sub  ht24) rfl ?_
    rintro _ H25 w26 le27 rfl hO
    have hS : SD w0 H0 [] H2 [] _ := ⟨_, _, le27, hO, trivial⟩
    refine nil ⟨fun _ => hS, ?_⟩
    refine WA.only (i := 10) (by kernel_rfl) rfl ?_
    obtain ⟨t28, ht29, hm1⟩ := bindSome hm1
    refine o_call hO go88 (switchboardref01_Hold_ok hO.sub  ht29) rfl ?_
    rintro _ H30 w31 le32 rfl hO
    have hS : SD w0 H0 [] H2 [] _ := ⟨_, _, (le27.trans le32), hO, trivial⟩
    refine nil ⟨fun _ => hS, ?_⟩
    refine take (i := 11) rfl (by kernel_rfl) (fun w hS => x_add rfl rfl) hS ?_
    refine WA.only (i := 12) (by kernel_rfl) rfl ?_
    obtain ⟨t33, ht34, hm1⟩ := bindSome hm1
    refine o_call hO go88 (switchboardref01_Hold_ok hO.sub  ht34) rfl ?_
    rintro _ H35 w36 le37 rfl hO
    have hS : SD w0 H0 [] H2 [] _ := ⟨_, _, (le27.trans (le32.trans le37)), hO, trivial⟩
    refine nil ⟨fun _ => hS, ?_⟩
    refine WA.only (i := 13) (by kernel_rfl) rfl ?_
    refine o_litT (en := (eInt .i64)) 1 [(.int .i64 t33)] ([t33] : List Int) hO sli61 ⟨rfl, trivial⟩ rfl rfl rfl ?_
    intro g38 cs39 w40 hr41 hO
    have hS : SD w0 H0 [] H2 [] _ := ⟨_, _, (le27.trans (le32.trans le37)), hO, trivial⟩
    refine nil ⟨fun _ => hS, ?_⟩
    refine WA.only (i := 14) (by kernel_rfl) rfl ?_
    refine o_appT (en := (eInt .i64)) (xs := v7) (ys := ([t33] : List Int)) 0 hO rfl (h11.up (le27.trans (le32.trans le37))) rfl rfl (Src.row (k := 1) hO rfl) hr41 sli61 rfl rfl underlying61 hm1 ?_
    intro A42 c43 cs44 w45 hr46 hO hm1
    have hS : SD w0 H0 [] H2 [] _ := ⟨_, _, (le27.trans (le32.trans le37)), hO, trivial⟩
    refine nil ⟨fun _ => hS, ?_⟩
    refine take (i := 15) rfl (by kernel_rfl) (fun w hS => x_assign (.slice A42 (v7 ++ ([t33] : List Int)).length c43) rfl) hS ?_
    refine WA.done (by kernel_rfl) ?_
    refine region (val (x_move (.int .i64 v12) f6_1) ?_)
    refine val (x_add rfl rfl) ?_
    refine val (x_assign (.int .i64 (i64w (v12 + 1))) rfl) ?_
    refine nil ?_
    exact ⟨_, Nat.lt_succ_self _, rest5, (v7 ++ ([t33] : List Int)), A42, c43, cs44, i64w (v12 + 1), H35, rfl, hm1, (le3.trans (le27.trans (le32.trans le37))), hO.pick _ ⟨rfl, trivial⟩, f0_1, f1_1, rfl, rfl, hr46⟩
   ·intro hb13 hm1
    refine W.exit _ rfl ?_
    obtain rfl := sj hm1
    exact ⟨v7, A8, c9, cs10, v12, H2, rfl, le3, hO.pick _ ⟨rfl, trivial⟩, f5_1, h11⟩
 ·intro r w
  rintro ⟨v49, A50, c51, cs53, v54, H47, rfl, le48, hO, f56, h52⟩
  dsimp only at hm0
  refine seq (region (val (x_move (.slice A50 v49.length c51) f56) ?_))
  refine val (x_assign (.slice A50 v49.length c51) rfl) ?_
  refine nil (W.ret ?_)
  obtain ⟨H57, le58, h59, hO⟩ := hO.freezeRow (en := (eInt .i64)) 0 rfl rfl rfl h52
  obtain rfl := sj hm0
  exact ⟨H57, ⟨A50, c51, rfl, h59⟩, hO.done⟩
end Go.Sw

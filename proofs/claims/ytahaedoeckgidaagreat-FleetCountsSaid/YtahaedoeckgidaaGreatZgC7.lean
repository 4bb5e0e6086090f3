/- The calls compute the mirrors. -/
import Derived.Test.YtahaedoeckgidaaGreatZgF
import Derived.Test.YtahaedoeckgidaaGreatZgC3
import Derived.Test.YtahaedoeckgidaaGreatZgC6
set_option linter.unusedVariables false
set_option linter.unusedSimpArgs false
set_option maxRecDepth 100000
namespace Go.Sw
open WL (val nil gval yes no)
open W (region test seq skip)
open WA (take)
open Go.Proofs.Tryz
open Go.Proofs
theorem slices_Index_bool_ro0_ok {w0 : World} {H0 : IHeap} {p0 : List Bool} {p1 : Bool}  {A1_ : Option Addr} {c1_ : Nat} {cs1_ : List Value} {M : List Nat} (hO : St w0 H0 M H0 (ol [(0, .row A1_ c1_ 4 eBool.size p0.length cs1_)]) w0) (h1_ : Rows eBool H0 cs1_ p0) {res : Int} (hm0 : slices_Index_bool_ro0 p0 p1 = some res) :
  OkM prog 125 [(.slice A1_ p0.length c1_), (.bool p1)].toArray w0 H0 M (fun H' O' v => v = (.int .i64 res) ∧ O' 0 = some (.row A1_ c1_ 4 eBool.size p0.length cs1_)) := by
 unfold slices_Index_bool_ro0 at hm0
 refine (okM_of_W Tryz.func125 rfl Tryz.ntmps125 (rs := [.tmp 4]) rfl rfl ?_)
 refine seq (region (val (x_assign (.int .i64 0) rfl) ?_))
 refine nil (seq (seq (region (val (x_move (.slice A1_ p0.length c1_) rfl) ?_))))
 refine val (x_len rfl underlying91) ?_
 refine val (x_move (.int .i64 0) rfl) ?_
 refine nil ?_
 obtain ⟨hlim1, hm0⟩ := chk hm0
 obtain ⟨o1, hm1, hm0⟩ := bindSome hm0
 have hO := hO.pick [(0, .row A1_ c1_ 4 eBool.size p0.length cs1_)] ⟨rfl, trivial⟩
 refine W.blockLoop (fun r w => ∃ (i4 : Nat) (H2 : IHeap), .out () = o1 ∧ Le H0 H2 ∧ St w0 H0 M H2 (ol [(0, .row A1_ c1_ 4 eBool.size p0.length cs1_)]) w) (fun k r w => ∃ (i4 : Nat) (rest5 : Nat) (H2 : IHeap), rest5 = k ∧ Int.toNat ((p0.length : Int) - (i4 : Int)) = rest5 ∧ slices_Index_bool_ro0_l1 p0 p1 rest5 i4 = some o1 ∧ Le H0 H2 ∧ St w0 H0 M H2 (ol [(0, .row A1_ c1_ 4 eBool.size p0.length cs1_)]) w ∧ r 0 = (.slice A1_ p0.length c1_) ∧ r 1 = (.bool p1) ∧ r 7 = (.int .i64 (p0.length : Int)) ∧ r 8 = (.int .i64 (i4 : Int))) (Int.toNat (p0.length : Int)) ?_ ?_ ?_
 ·exact ⟨0, _, _, rfl, cnt_init _, hm1, Le.refl _, hO, rfl, rfl, rfl, rfl⟩
 ·
  intro k r w
  rintro ⟨i4, rest5, H2, rfl, hd7, hm1, le3, hO, f0_1, f1_1, f7_1, f8_1⟩
  cases rest5 with
  | zero =>
   rw [slices_Index_bool_ro0_l1] at hm1
   have hlt := cnt_zero hd7
   refine seq (region (val (x_lss f8_1 f7_1) ?_))
   refine nil (seq (W.cond_f (kb rfl hlt) ?_))
   refine W.exit _ rfl ?_
   obtain rfl := sj hm1
   exact ⟨i4, H2, rfl, le3, hO.pick _ ⟨rfl, trivial⟩⟩
  | succ rest5 =>
   rw [slices_Index_bool_ro0_l1] at hm1
   have hlt := cnt_lt hd7
   have hnx := cnt_next hd7
   have hinc := inc_lim hlt hlim1
   refine seq (region (val (x_lss f8_1 f7_1) ?_))
   refine nil (seq (W.cond_t (kb rfl hlt) ?_))
   refine skip (seq (W.block ?_))
   refine seq (region (val (x_move (.int .i64 (i4 : Int)) f8_1) ?_))
   refine val (x_assign (.int .i64 (i4 : Int)) rfl) ?_
   refine nil (seq (region (val (x_move (.bool p1) f1_1) ?_)))
   refine val (x_move (.slice A1_ p0.length c1_) f0_1) ?_
   refine val (x_move (.int .i64 (i4 : Int)) rfl) ?_
   obtain ⟨hin8, hm1⟩ := chk hm1
   obtain ⟨hc9, g10, o11, hA12⟩ := hO.rowA (k := 0) rfl hin8
   refine val (x_ia (sA rfl hA12) rfl sle91 hin8) ?_
   obtain ⟨cs13, hr14, hc15⟩ := row_elem (en := eBool) (k := 0) hO rfl (h1_.up le3) hc9 hA12 (at0_some hin8)
   obtain rfl := hr14
   refine val (x_ldc rfl (by rw [addr_add]; exact hc15 0 _ rfl) one4) ?_
   refine val (x_eqlb underlying4 rfl rfl) ?_
   refine nil (test rfl hm1 ?_ ?_)
   ·intro hb16 hm1
    refine seq (region (val (x_move (.int .i64 (i4 : Int)) rfl) ?_))
    refine val (x_assign (.int .i64 (i4 : Int)) rfl) ?_
    refine nil (W.ret ?_)
    obtain rfl := sj hm1
    dsimp only at hm0
    obtain rfl := sj hm0
    exact ⟨[(.int .i64 (i4 : Int))], ⟨rfl, trivial⟩, H2, _, ⟨rfl, rfl⟩, hO.relabel [(0, .row A1_ c1_ 4 eBool.size p0.length cs1_)] ⟨rfl, trivial⟩ (names_nd (ns := [0]) rfl (by decide))⟩
   ·intro hb16 hm1
    refine skip (region (val (x_add f8_1 rfl) ?_))
    refine val (x_move (.int .i64 (i64w ((i4 : Int) + 1))) rfl) ?_
    refine nil ?_
    exact ⟨_, Nat.lt_succ_self _, i4 + 1, rest5, H2, rfl, hnx, hm1, le3, hO.pick _ ⟨rfl, trivial⟩, f0_1, f1_1, f7_1, (incv hinc)⟩
 ·intro r w
  rintro ⟨i19, H17, rfl, le18, hO⟩
  dsimp only at hm0
  refine seq (region (val (x_assign (.int .i64 (-1)) rfl) ?_))
  refine nil (W.ret ?_)
  obtain rfl := sj hm0
  exact ⟨[(.int .i64 (-1))], ⟨rfl, trivial⟩, H17, _, ⟨rfl, rfl⟩, hO.relabel [(0, .row A1_ c1_ 4 eBool.size p0.length cs1_)] ⟨rfl, trivial⟩ (names_nd (ns := [0]) rfl (by decide))⟩
theorem slices_Contains_bool_ro0_ok {w0 : World} {H0 : IHeap} {p0 : List Bool} {p1 : Bool}  {A1_ : Option Addr} {c1_ : Nat} {cs1_ : List Value} {M : List Nat} (hO : St w0 H0 M H0 (ol [(0, .row A1_ c1_ 4 eBool.size p0.length cs1_)]) w0) (h1_ : Rows eBool H0 cs1_ p0) {res : Bool} (hm0 : slices_Contains_bool_ro0 p0 p1 = some res) :
  OkM prog 82 [(.slice A1_ p0.length c1_), (.bool p1)].toArray w0 H0 M (fun H' O' v => v = (.bool res) ∧ O' 0 = some (.row A1_ c1_ 4 eBool.size p0.length cs1_)) := by
 unfold slices_Contains_bool_ro0 at hm0
 refine (okM_of_W Tryz.func82 rfl Tryz.ntmps82 (rs := [.tmp 4]) rfl rfl ?_)
 refine seq (region (val (x_assign (.bool false) rfl) ?_))
 refine nil (seq (region (val (x_move (.slice A1_ p0.length c1_) rfl) ?_)))
 refine val (x_move (.bool p1) rfl) ?_
 obtain ⟨t1, ht2, hm0⟩ := bindSome hm0
 refine o_callL (args := [(.slice A1_ p0.length c1_), (.bool p1)]) [(0, .row A1_ c1_ 4 eBool.size p0.length cs1_)] hO ⟨rfl, trivial⟩ (names_nd (ns := [0]) rfl (by decide)) go125 (slices_Index_bool_ro0_ok (hO.enterL [(0, .row A1_ c1_ 4 eBool.size p0.length cs1_)] ⟨rfl, trivial⟩ (names_nd (ns := [0]) rfl (by decide))) h1_ ht2) rfl ?_
 rintro _ H3 O6 w4 le5 ⟨rfl, hk7⟩ hO
 have hO := hO.named [.row A1_ c1_ 4 eBool.size p0.length cs1_] ⟨hk7, trivial⟩
 refine val (x_geq rfl rfl) ?_
 refine val (x_assign (.bool (decide (0 ≤ t1))) rfl) ?_
 refine nil (W.ret ?_)
 obtain rfl := sj hm0
 exact ⟨[(.bool (decide (0 ≤ t1)))], ⟨rfl, trivial⟩, H3, _, ⟨rfl, rfl⟩, hO.relabel [(0, .row A1_ c1_ 4 eBool.size p0.length cs1_)] ⟨rfl, trivial⟩ (names_nd (ns := [0]) rfl (by decide))⟩
theorem model_Combine_ro2_ok {w0 : World} {H0 : IHeap} {p0 : List (List Int)} {p1 : List ModelPart} {p2 : List (List Int)}  {A1_ : Option Addr} {c1_ : Nat} {A2_ : Option Addr} {c2_ : Nat} {A3_ : Option Addr} {c3_ : Nat} {cs3_ : List Value} {M : List Nat} (hO : St w0 H0 M H0 (ol [(0, .row A3_ c3_ 61 (eSl (eInt .i64)).size p2.length cs3_)]) w0) (h1_ : RS (eSl (eInt .i64)) H0 A1_ c1_ p0) (h2_ : RS eModelPart H0 A2_ c2_ p1) (h3_ : Rows (eSl (eInt .i64)) H0 cs3_ p2) {res : (List (List Int))} (hm0 : model_Combine_ro2 p0 p1 p2 = some res) :
  OkM prog 83 [(.slice A1_ p0.length c1_), (.slice A2_ p1.length c2_), (.slice A3_ p2.length c3_)].toArray w0 H0 M (fun H' O' v => ∃ (A1 : Option Addr) (c1 : Nat), v = (.slice A1 res.length c1) ∧ RS (eSl (eInt .i64)) H' A1 c1 res ∧ O' 0 = some (.row A3_ c3_ 61 (eSl (eInt .i64)).size p2.length cs3_)) := by
 unfold model_Combine_ro2 at hm0
 refine (okM_of_W Tryz.func83 rfl Tryz.ntmps83 (rs := [.tmp 6]) rfl rfl ?_)
 refine seq (region (val (x_assign (.slice none 0 0) rfl) ?_))
 refine nil (seq (region (val (x_move (.slice A1_ p0.length c1_) rfl) ?_)))
 obtain ⟨t1, ht2, hm0⟩ := bindSome hm0
 refine o_callO hO go39 (slices_Clone__int_ok hO.sub h1_ ht2) rfl ?_
 rintro _ H3 O11 w4 le5 ⟨A6, c7, cs8, rfl, hr9, hk10⟩ hO'
 have hO := hO.callRow hO' 1 0 _ hk10; clear hO'
 refine val (x_assign (.slice A6 t1.length c7) rfl) ?_
 refine nil (seq (seq (region (val (x_move (.slice A2_ p1.length c2_) rfl) ?_))))
 refine val (x_len rfl underlying90) ?_
 refine val (x_move (.int .i64 0) rfl) ?_
 refine nil ?_
 obtain ⟨o12, hm1, hm0⟩ := bindSome hm0
 have hO := hO.pick [(0, .row A3_ c3_ 61 (eSl (eInt .i64)).size p2.length cs3_), (1, .row A6 c7 61 (eSl (eInt .i64)).size t1.length cs8)] ⟨rfl, rfl, trivial⟩
 refine W.blockLoop (fun r w => ∃ (v18 : List (List Int)) (A19 : Option Addr) (c20 : Nat) (cs21 : List Value) (i15 : Nat) (H13 : IHeap), v18 = o12 ∧ Le H3 H13 ∧ St w0 H0 M H13 (ol [(0, .row A3_ c3_ 61 (eSl (eInt .i64)).size p2.length cs3_), (1, .row A19 c20 61 (eSl (eInt .i64)).size v18.length cs21)]) w ∧ r 7 = (.slice A19 v18.length c20) ∧ Rows (eSl (eInt .i64)) H13 cs21 v18) (fun k r w => ∃ (i15 : Nat) (rest16 : List ModelPart) (v18 : List (List Int)) (A19 : Option Addr) (c20 : Nat) (cs21 : List Value) (H13 : IHeap), k = rest16.length ∧ List.drop i15 p1 = rest16 ∧ model_Combine_ro2_l1 p2 rest16 i15 v18 = some o12 ∧ Le H3 H13 ∧ St w0 H0 M H13 (ol [(0, .row A3_ c3_ 61 (eSl (eInt .i64)).size p2.length cs3_), (1, .row A19 c20 61 (eSl (eInt .i64)).size v18.length cs21)]) w ∧ r 2 = (.slice A3_ p2.length c3_) ∧ r 7 = (.slice A19 v18.length c20) ∧ r 14 = (.slice A2_ p1.length c2_) ∧ r 15 = (.int .i64 (p1.length : Int)) ∧ r 16 = (.int .i64 (i15 : Int)) ∧ Rows (eSl (eInt .i64)) H13 cs21 v18) (List.length p1) ?_ ?_ ?_
 ·exact ⟨0, _, t1, A6, c7, cs8, _, rfl, rfl, hm1, Le.refl _, hO, rfl, rfl, rfl, rfl, rfl, hr9⟩
 ·
  intro k r w
  rintro ⟨i15, rest16, v18, A19, c20, cs21, H13, rfl, hd23, hm1, le14, hO, f2_1, f7_1, f14_1, f15_1, f16_1, h22⟩
  cases rest16 with
  | nil =>
   rw [model_Combine_ro2_l1] at hm1
   have hlt := drop_nil hd23
   refine seq (region (val (x_lss f16_1 f15_1) ?_))
   refine nil (seq (W.cond_f (kb rfl hlt) ?_))
   refine W.exit _ rfl ?_
   obtain rfl := sj hm1
   exact ⟨v18, A19, c20, cs21, i15, H13, rfl, le14, hO.pick _ ⟨rfl, rfl, trivial⟩, f7_1, h22⟩
  | cons x17 rest16 =>
   rw [model_Combine_ro2_l1] at hm1
   have hlt := drop_lt hd23
   have hnx := drop_next hd23
   have hinc := inc_len hlt (h2_.up le5).1 (h2_.up le5).2.1
   refine seq (region (val (x_lss f16_1 f15_1) ?_))
   refine nil (seq (W.cond_t (kb rfl hlt) ?_))
   refine skip (seq (W.block ?_))
   refine seq (region (val (x_move (.int .i64 (i15 : Int)) f16_1) ?_))
   obtain ⟨a24, h25, hA26, hin⟩ := RS.atR (h2_.up (le5.trans le14)) hd23
   refine val (x_ia (sA f14_1 hA26) f16_1 sle90 hin) ?_
   obtain ⟨cs27, hr28, hc29⟩ := At.agg h25
   obtain rfl := hr28
   refine val (x_ldv rfl (hc29 _ _ _ hO.sub agg145)) ?_
   refine o_alloc 2 _ [(.int .i64 0), (.int .i64 0), (.int .i64 0), (.int .i64 0)] zer145 hO rfl ?_
   intro g30 w31 hO
   refine val (x_assign (.int .i64 (i15 : Int)) rfl) ?_
   refine o_sts 2 [(.int .i64 x17.Token), (.int .i64 x17.Rank), (.int .i64 x17.Expert), (.int .i64 x17.Weight)] hO rfl rfl rfl siz145 rfl (Nat.le_of_ble_eq_true rfl) (by simp [Value.oneCell', vs]) ?_
   intro w32 hO
   refine nil (seq (seq (region (val (x_move (.int .i64 (i15 : Int)) rfl) ?_))))
   refine val (x_move (.slice A3_ p2.length c3_) f2_1) ?_
   refine val (x_len rfl underlying25) ?_
   refine val (x_geq rfl rfl) ?_
   refine val (x_move (.bool (decide ((p2.length : Int) ≤ (i15 : Int)))) rfl) ?_
   refine gval rfl rfl (fun hb => x_fa rfl fo145_0) ?_
   refine gval rfl rfl (fun hb => x_ld 2 (.int .i64 x17.Token) hO rfl (gv hb) rfl one3) ?_
   refine gval rfl rfl (fun hb => x_lss (gv hb) rfl) ?_
   refine val (x_pick rfl (.bool ((decide ((p2.length : Int) ≤ (i15 : Int))) || (decide (x17.Token < 0)))) pick_or) ?_
   refine val (x_move (.bool ((decide ((p2.length : Int) ≤ (i15 : Int))) || (decide (x17.Token < 0)))) rfl) ?_
   refine gval rfl rfl (fun hb => x_fa rfl fo145_0) ?_
   refine gval rfl rfl (fun hb => x_ld 2 (.int .i64 x17.Token) hO rfl (gv hb) rfl one3) ?_
   refine gval rfl rfl (fun hb => x_move (.slice A19 v18.length c20) f7_1) ?_
   refine gval rfl rfl (fun hb => x_len (gv hb) underlying25) ?_
   refine gval rfl rfl (fun hb => x_geq (gv hb) (gv hb)) ?_
   refine val (x_pick rfl (.bool (((decide ((p2.length : Int) ≤ (i15 : Int))) || (decide (x17.Token < 0))) || (decide ((v18.length : Int) ≤ x17.Token)))) pick_or) ?_
   refine nil (test rfl hm1 ?_ ?_)
   ·intro hb33 hm1
    refine W.exit _ rfl ?_
    refine region (val (x_add f16_1 rfl) ?_)
    refine val (x_move (.int .i64 (i64w ((i15 : Int) + 1))) rfl) ?_
    refine nil ?_
    exact ⟨_, Nat.lt_succ_self _, i15 + 1, rest16, v18, A19, c20, cs21, H13, rfl, hnx, hm1, le14, hO.pick _ ⟨rfl, rfl, trivial⟩, f2_1, f7_1, f14_1, f15_1, (incv hinc), h22⟩
   ·intro hb33 hm1
    refine skip (seq ?_)
    have hO := hO.pick [(2, .blk g30 [(.int .i64 x17.Token), (.int .i64 x17.Rank), (.int .i64 x17.Expert), (.int .i64 x17.Weight)] 145), (0, .row A3_ c3_ 61 (eSl (eInt .i64)).size p2.length cs3_), (1, .row A19 c20 61 (eSl (eInt .i64)).size v18.length cs21)] ⟨rfl, rfl, rfl, trivial⟩
    refine W.draw (SD w0 H0 M H13 [(2, .blk g30 [(.int .i64 x17.Token), (.int .i64 x17.Rank), (.int .i64 x17.Expert), (.int .i64 x17.Weight)] 145)]) (fun i => ([] : List Nat).contains i) mixed 18 rfl _ rfl ?_
    intro w34 hh1 hh2 hh3 hh4; have hO := hO.same hh1 hh2 hh3 hh4; clear hh1 hh2 hh3 hh4
    have hS : SD w0 H0 M H13 [(2, .blk g30 [(.int .i64 x17.Token), (.int .i64 x17.Rank), (.int .i64 x17.Expert), (.int .i64 x17.Weight)] 145)] w34 := ⟨_, _, Le.refl _, hO, ⟨rfl, trivial⟩⟩
    refine take (i := 0) rfl (by kernel_rfl) (fun w hS => x_move (.slice A19 v18.length c20) f7_1) hS ?_
    refine take (i := 1) rfl (by kernel_rfl) (fun w hS => x_fa rfl fo145_0) hS ?_
    refine take (i := 2) rfl (by kernel_rfl) (fun w hS => x_ldD 2 (.int .i64 x17.Token) hS rfl rfl rfl one3) hS ?_
    obtain ⟨hin35, hm1⟩ := chk hm1
    obtain ⟨hc36, g37, o38, hA39⟩ := hO.rowA (k := 1) rfl hin35
    refine take (i := 3) rfl (by kernel_rfl) (fun w hS => x_ia (sA rfl hA39) rfl sle25 hin35) hS ?_
    refine take (i := 5) rfl (by kernel_rfl) (fun w hS => x_move (.slice A3_ p2.length c3_) f2_1) hS ?_
    refine take (i := 6) rfl (by kernel_rfl) (fun w hS => x_move (.int .i64 (i15 : Int)) rfl) hS ?_
    obtain ⟨hin40, hm1⟩ := chk hm1
    obtain ⟨hc41, g42, o43, hA44⟩ := hO.rowA (k := 0) rfl hin40
    refine take (i := 7) rfl (by kernel_rfl) (fun w hS => x_ia (sA rfl hA44) rfl sle25 hin40) hS ?_
    refine take (i := 9) rfl (by kernel_rfl) (fun w hS => x_fa rfl fo145_3) hS ?_
    refine take (i := 10) rfl (by kernel_rfl) (fun w hS => x_ldD 2 (.int .i64 x17.Weight) hS rfl rfl rfl one3) hS ?_
    refine WA.all [4, 8] (by kernel_rfl) (by simp) ?_
    intro i hi; simp only [List.mem_cons, List.not_mem_nil, or_false] at hi
    rcases hi with rfl | rfl
    ·refine ⟨_, rfl, ?_⟩
     obtain ⟨cs45, hr46, hc47⟩ := row_elem (en := (eSl (eInt .i64))) (k := 1) hO rfl h22 hc36 hA39 (at0_some hin35)
     obtain ⟨A48, c49, rfl, h50⟩ := hr46
     refine val (x_ldc rfl (by rw [addr_add]; exact hc47 0 _ rfl) one61) ?_
     have hS : SD w0 H0 M H13 [(2, .blk g30 [(.int .i64 x17.Token), (.int .i64 x17.Rank), (.int .i64 x17.Expert), (.int .i64 x17.Weight)] 145)] _ := ⟨_, _, (Le.refl _), hO, ⟨rfl, trivial⟩⟩
     refine nil ⟨fun _ => hS, ?_⟩
     refine WA.only (i := 8) (by kernel_rfl) rfl ?_
     obtain ⟨cs51, hr52, hc53⟩ := row_elem (en := (eSl (eInt .i64))) (k := 0) hO rfl (h3_.up (le5.trans le14)) hc41 hA44 (at0_some hin40)
     obtain ⟨A54, c55, rfl, h56⟩ := hr52
     refine val (x_ldc rfl (by rw [addr_add]; exact hc53 0 _ rfl) one61) ?_
     have hS : SD w0 H0 M H13 [(2, .blk g30 [(.int .i64 x17.Token), (.int .i64 x17.Rank), (.int .i64 x17.Expert), (.int .i64 x17.Weight)] 145)] _ := ⟨_, _, (Le.refl _), hO, ⟨rfl, trivial⟩⟩
     refine nil ⟨fun _ => hS, ?_⟩
     refine WA.only (i := 11) (by kernel_rfl) rfl ?_
     obtain ⟨t57, ht58, hm1⟩ := bindSome hm1
     refine o_call hO go127 (vec_Scale_ok hO.sub h56 ht58) rfl ?_
     rintro _ H59 w60 le61 ⟨A62, c63, rfl, h64⟩ hO
     have hS : SD w0 H0 M H13 [(2, .blk g30 [(.int .i64 x17.Token), (.int .i64 x17.Rank), (.int .i64 x17.Expert), (.int .i64 x17.Weight)] 145)] _ := ⟨_, _, le61, hO, ⟨rfl, trivial⟩⟩
     refine nil ⟨fun _ => hS, ?_⟩
     refine WA.only (i := 12) (by kernel_rfl) rfl ?_
     obtain ⟨t65, ht66, hm1⟩ := bindSome hm1
     refine o_call hO go126 (vec_Add_ok hO.sub (h50.up le61) h64 ht66) rfl ?_
     rintro _ H67 w68 le69 ⟨A70, c71, rfl, h72⟩ hO
     have hS : SD w0 H0 M H13 [(2, .blk g30 [(.int .i64 x17.Token), (.int .i64 x17.Rank), (.int .i64 x17.Expert), (.int .i64 x17.Weight)] 145)] _ := ⟨_, _, (le61.trans le69), hO, ⟨rfl, trivial⟩⟩
     refine nil ⟨fun _ => hS, ?_⟩
     refine take (i := 13) rfl (by kernel_rfl) (fun w hS => x_move (.tuple #[(.slice A70 t65.1.length c71), (.bool t65.2)]) rfl) hS ?_
     refine take (i := 14) rfl (by kernel_rfl) (fun w hS => x_extract (.slice A70 t65.1.length c71) rfl rfl) hS ?_
     refine take (i := 15) rfl (by kernel_rfl) (fun w hS => x_extract (.bool t65.2) rfl rfl) hS ?_
     refine take (i := 16) rfl (by kernel_rfl) (fun w hS => x_assign (.slice A70 t65.1.length c71) rfl) hS ?_
     refine take (i := 17) rfl (by kernel_rfl) (fun w hS => x_assign (.bool t65.2) rfl) hS ?_
     refine WA.done (by kernel_rfl) ?_
     refine seq (region (val (x_move (.bool t65.2) rfl) ?_))
     refine nil (test rfl hm1 ?_ ?_)
     ·intro hb73 hm1
      refine region (val (x_move (.slice A19 v18.length c20) f7_1) ?_)
      refine val (x_fa rfl fo145_0) ?_
      refine val (x_ld 2 (.int .i64 x17.Token) hO rfl rfl rfl one3) ?_
      refine val (x_move (.slice A70 t65.1.length c71) rfl) ?_
      obtain ⟨hin74, hm1⟩ := chk hm1
      obtain ⟨hc75, g76, o77, hA78⟩ := hO.rowA (k := 1) rfl hin74
      refine val (x_ia (sA rfl hA78) rfl sle25 hin74) ?_
      refine o_stRow (en := (eSl (eInt .i64))) (z := t65.1) (k := 1) (.slice A70 t65.1.length c71) hO rfl (h22.up (le61.trans le69)) hc75 hA78 hin74 rfl rfl rfl ⟨A70, c71, rfl, h72⟩ siz61 ?_
      intro cs79 w80 hr81 hO
      refine nil (region (val (x_add f16_1 rfl) ?_))
      refine val (x_move (.int .i64 (i64w ((i15 : Int) + 1))) rfl) ?_
      refine nil ?_
      exact ⟨_, Nat.lt_succ_self _, i15 + 1, rest16, (List.set v18 (Int.toNat x17.Token) t65.1), A19, c20, cs79, H67, rfl, hnx, hm1, (le14.trans (le61.trans le69)), hO.pick _ ⟨rfl, rfl, trivial⟩, f2_1, (setlen f7_1), f14_1, f15_1, (incv hinc), hr81⟩
     ·intro hb73 hm1
      refine skip (region (val (x_add f16_1 rfl) ?_))
      refine val (x_move (.int .i64 (i64w ((i15 : Int) + 1))) rfl) ?_
      refine nil ?_
      exact ⟨_, Nat.lt_succ_self _, i15 + 1, rest16, v18, A19, c20, cs21, H67, rfl, hnx, hm1, (le14.trans (le61.trans le69)), hO.pick _ ⟨rfl, rfl, trivial⟩, f2_1, f7_1, f14_1, f15_1, (incv hinc), (h22.up (le61.trans le69))⟩
    ·refine ⟨_, rfl, ?_⟩
     obtain ⟨cs45, hr46, hc47⟩ := row_elem (en := (eSl (eInt .i64))) (k := 0) hO rfl (h3_.up (le5.trans le14)) hc41 hA44 (at0_some hin40)
     obtain ⟨A48, c49, rfl, h50⟩ := hr46
     refine val (x_ldc rfl (by rw [addr_add]; exact hc47 0 _ rfl) one61) ?_
     have hS : SD w0 H0 M H13 [(2, .blk g30 [(.int .i64 x17.Token), (.int .i64 x17.Rank), (.int .i64 x17.Expert), (.int .i64 x17.Weight)] 145)] _ := ⟨_, _, (Le.refl _), hO, ⟨rfl, trivial⟩⟩
     refine nil ⟨fun _ => hS, ?_⟩
     obtain ⟨t51, ht52, hm1⟩ := bindSome hm1
     refine WA.all [4, 11] (by kernel_rfl) (by simp) ?_
     intro i hi; simp only [List.mem_cons, List.not_mem_nil, or_false] at hi
     rcases hi with rfl | rfl
     ·refine ⟨_, rfl, ?_⟩
      obtain ⟨cs53, hr54, hc55⟩ := row_elem (en := (eSl (eInt .i64))) (k := 1) hO rfl h22 hc36 hA39 (at0_some hin35)
      obtain ⟨A56, c57, rfl, h58⟩ := hr54
      refine val (x_ldc rfl (by rw [addr_add]; exact hc55 0 _ rfl) one61) ?_
      have hS : SD w0 H0 M H13 [(2, .blk g30 [(.int .i64 x17.Token), (.int .i64 x17.Rank), (.int .i64 x17.Expert), (.int .i64 x17.Weight)] 145)] _ := ⟨_, _, (Le.refl _), hO, ⟨rfl, trivial⟩⟩
      refine nil ⟨fun _ => hS, ?_⟩
      refine WA.only (i := 11) (by kernel_rfl) rfl ?_
      refine o_call hO go127 (vec_Scale_ok hO.sub h50 ht52) rfl ?_
      rintro _ H59 w60 le61 ⟨A62, c63, rfl, h64⟩ hO
      have hS : SD w0 H0 M H13 [(2, .blk g30 [(.int .i64 x17.Token), (.int .i64 x17.Rank), (.int .i64 x17.Expert), (.int .i64 x17.Weight)] 145)] _ := ⟨_, _, le61, hO, ⟨rfl, trivial⟩⟩
      refine nil ⟨fun _ => hS, ?_⟩
      refine WA.only (i := 12) (by kernel_rfl) rfl ?_
      obtain ⟨t65, ht66, hm1⟩ := bindSome hm1
      refine o_call hO go126 (vec_Add_ok hO.sub (h58.up le61) h64 ht66) rfl ?_
      rintro _ H67 w68 le69 ⟨A70, c71, rfl, h72⟩ hO
      have hS : SD w0 H0 M H13 [(2, .blk g30 [(.int .i64 x17.Token), (.int .i64 x17.Rank), (.int .i64 x17.Expert), (.int .i64 x17.Weight)] 145)] _ := ⟨_, _, (le61.trans le69), hO, ⟨rfl, trivial⟩⟩
      refine nil ⟨fun _ => hS, ?_⟩
      refine take (i := 13) rfl (by kernel_rfl) (fun w hS => x_move (.tuple #[(.slice A70 t65.1.length c71), (.bool t65.2)]) rfl) hS ?_
      refine take (i := 14) rfl (by kernel_rfl) (fun w hS => x_extract (.slice A70 t65.1.length c71) rfl rfl) hS ?_
      refine take (i := 15) rfl (by kernel_rfl) (fun w hS => x_extract (.bool t65.2) rfl rfl) hS ?_
      refine take (i := 16) rfl (by kernel_rfl) (fun w hS => x_assign (.slice A70 t65.1.length c71) rfl) hS ?_
      refine take (i := 17) rfl (by kernel_rfl) (fun w hS => x_assign (.bool t65.2) rfl) hS ?_
      refine WA.done (by kernel_rfl) ?_
      refine seq (region (val (x_move (.bool t65.2) rfl) ?_))
      refine nil (test rfl hm1 ?_ ?_)
      ·intro hb73 hm1
       refine region (val (x_move (.slice A19 v18.length c20) f7_1) ?_)
       refine val (x_fa rfl fo145_0) ?_
       refine val (x_ld 2 (.int .i64 x17.Token) hO rfl rfl rfl one3) ?_
       refine val (x_move (.slice A70 t65.1.length c71) rfl) ?_
       obtain ⟨hin74, hm1⟩ := chk hm1
       obtain ⟨hc75, g76, o77, hA78⟩ := hO.rowA (k := 1) rfl hin74
       refine val (x_ia (sA rfl hA78) rfl sle25 hin74) ?_
       refine o_stRow (en := (eSl (eInt .i64))) (z := t65.1) (k := 1) (.slice A70 t65.1.length c71) hO rfl (h22.up (le61.trans le69)) hc75 hA78 hin74 rfl rfl rfl ⟨A70, c71, rfl, h72⟩ siz61 ?_
       intro cs79 w80 hr81 hO
       refine nil (region (val (x_add f16_1 rfl) ?_))
       refine val (x_move (.int .i64 (i64w ((i15 : Int) + 1))) rfl) ?_
       refine nil ?_
       exact ⟨_, Nat.lt_succ_self _, i15 + 1, rest16, (List.set v18 (Int.toNat x17.Token) t65.1), A19, c20, cs79, H67, rfl, hnx, hm1, (le14.trans (le61.trans le69)), hO.pick _ ⟨rfl, rfl, trivial⟩, f2_1, (setlen f7_1), f14_1, f15_1, (incv hinc), hr81⟩
      ·intro hb73 hm1
       refine skip (region (val (x_add f16_1 rfl) ?_))
       refine val (x_move (.int .i64 (i64w ((i15 : Int) + 1))) rfl) ?_
       refine nil ?_
       exact ⟨_, Nat.lt_succ_self _, i15 + 1, rest16, v18, A19, c20, cs21, H67, rfl, hnx, hm1, (le14.trans (le61.trans le69)), hO.pick _ ⟨rfl, rfl, trivial⟩, f2_1, f7_1, f14_1, f15_1, (incv hinc), (h22.up (le61.trans le69))⟩
     ·refine ⟨_, rfl, ?_⟩
      refine o_call hO go127 (vec_Scale_ok hO.sub h50 ht52) rfl ?_
      rintro _ H53 w54 le55 ⟨A56, c57, rfl, h58⟩ hO
      have hS : SD w0 H0 M H13 [(2, .blk g30 [(.int .i64 x17.Token), (.int .i64 x17.Rank), (.int .i64 x17.Expert), (.int .i64 x17.Weight)] 145)] _ := ⟨_, _, le55, hO, ⟨rfl, trivial⟩⟩
      refine nil ⟨fun _ => hS, ?_⟩
      refine WA.only (i := 4) (by kernel_rfl) rfl ?_
      obtain ⟨cs59, hr60, hc61⟩ := row_elem (en := (eSl (eInt .i64))) (k := 1) hO rfl (h22.up le55) hc36 hA39 (at0_some hin35)
      obtain ⟨A62, c63, rfl, h64⟩ := hr60
      refine val (x_ldc rfl (by rw [addr_add]; exact hc61 0 _ rfl) one61) ?_
      have hS : SD w0 H0 M H13 [(2, .blk g30 [(.int .i64 x17.Token), (.int .i64 x17.Rank), (.int .i64 x17.Expert), (.int .i64 x17.Weight)] 145)] _ := ⟨_, _, le55, hO, ⟨rfl, trivial⟩⟩
      refine nil ⟨fun _ => hS, ?_⟩
      refine WA.only (i := 12) (by kernel_rfl) rfl ?_
      obtain ⟨t65, ht66, hm1⟩ := bindSome hm1
      refine o_call hO go126 (vec_Add_ok hO.sub h64 h58 ht66) rfl ?_
      rintro _ H67 w68 le69 ⟨A70, c71, rfl, h72⟩ hO
      have hS : SD w0 H0 M H13 [(2, .blk g30 [(.int .i64 x17.Token), (.int .i64 x17.Rank), (.int .i64 x17.Expert), (.int .i64 x17.Weight)] 145)] _ := ⟨_, _, (le55.trans le69), hO, ⟨rfl, trivial⟩⟩
      refine nil ⟨fun _ => hS, ?_⟩
      refine take (i := 13) rfl (by kernel_rfl) (fun w hS => x_move (.tuple #[(.slice A70 t65.1.length c71), (.bool t65.2)]) rfl) hS ?_
      refine take (i := 14) rfl (by kernel_rfl) (fun w hS => x_extract (.slice A70 t65.1.length c71) rfl rfl) hS ?_
      refine take (i := 15) rfl (by kernel_rfl) (fun w hS => x_extract (.bool t65.2) rfl rfl) hS ?_
      refine take (i := 16) rfl (by kernel_rfl) (fun w hS => x_assign (.slice A70 t65.1.length c71) rfl) hS ?_
      refine take (i := 17) rfl (by kernel_rfl) (fun w hS => x_assign (.bool t65.2) rfl) hS ?_
      refine WA.done (by kernel_rfl) ?_
      refine seq (region (val (x_move (.bool t65.2) rfl) ?_))
      refine nil (test rfl hm1 ?_ ?_)
      ·intro hb73 hm1
       refine region (val (x_move (.slice A19 v18.length c20) f7_1) ?_)
       refine val (x_fa rfl fo145_0) ?_
       refine val (x_ld 2 (.int .i64 x17.Token) hO rfl rfl rfl one3) ?_
       refine val (x_move (.slice A70 t65.1.length c71) rfl) ?_
       obtain ⟨hin74, hm1⟩ := chk hm1
       obtain ⟨hc75, g76, o77, hA78⟩ := hO.rowA (k := 1) rfl hin74
       refine val (x_ia (sA rfl hA78) rfl sle25 hin74) ?_
       refine o_stRow (en := (eSl (eInt .i64))) (z := t65.1) (k := 1) (.slice A70 t65.1.length c71) hO rfl (h22.up (le55.trans le69)) hc75 hA78 hin74 rfl rfl rfl ⟨A70, c71, rfl, h72⟩ siz61 ?_
       intro cs79 w80 hr81 hO
       refine nil (region (val (x_add f16_1 rfl) ?_))
       refine val (x_move (.int .i64 (i64w ((i15 : Int) + 1))) rfl) ?_
       refine nil ?_
       exact ⟨_, Nat.lt_succ_self _, i15 + 1, rest16, (List.set v18 (Int.toNat x17.Token) t65.1), A19, c20, cs79, H67, rfl, hnx, hm1, (le14.trans (le55.trans le69)), hO.pick _ ⟨rfl, rfl, trivial⟩, f2_1, (setlen f7_1), f14_1, f15_1, (incv hinc), hr81⟩
      ·intro hb73 hm1
       refine skip (region (val (x_add f16_1 rfl) ?_))
       refine val (x_move (.int .i64 (i64w ((i15 : Int) + 1))) rfl) ?_
       refine nil ?_
       exact ⟨_, Nat.lt_succ_self _, i15 + 1, rest16, v18, A19, c20, cs21, H67, rfl, hnx, hm1, (le14.trans (le55.trans le69)), hO.pick _ ⟨rfl, rfl, trivial⟩, f2_1, f7_1, f14_1, f15_1, (incv hinc), (h22.up (le55.trans le69))⟩
 ·intro r w
  rintro ⟨v84, A85, c86, cs88, i89, H82, rfl, le83, hO, f90, h87⟩
  refine seq (region (val (x_move (.slice A85 v84.length c86) f90) ?_))
  refine val (x_assign (.slice A85 v84.length c86) rfl) ?_
  refine nil (W.ret ?_)
  obtain ⟨H91, le92, h93, hO⟩ := hO.freezeRow (en := (eSl (eInt .i64))) 1 rfl rfl rfl h87
  obtain rfl := sj hm0
  exact ⟨[(.slice A85 v84.length c86)], ⟨rfl, trivial⟩, H91, _, ⟨A85, c86, rfl, h93, rfl⟩, hO.relabel [(0, .row A3_ c3_ 61 (eSl (eInt .i64)).size p2.length cs3_)] ⟨rfl, trivial⟩ (names_nd (ns := [0]) rfl (by decide))⟩
theorem fleet_Fleet_come_ok {w0 : World} {H0 : IHeap} {p0 : FleetFleet}  {g1_ : Nat} {cs2_ : List Value} {A4_ : Option Addr} {c5_ : Nat} {cs6_ : List Value} {A8_ : Option Addr} {c9_ : Nat} {cs10_ : List Value} {M : List Nat} (hO : St w0 H0 M H0 (ol [(0, .blk g1_ cs2_ 93), (1, .row A4_ c5_ 61 (eSl (eInt .i64)).size p0.answers.length cs6_), (2, .row A8_ c9_ 4 eBool.size p0.answered.length cs10_)]) w0) (h3_ : Enc.rep (eFleetFleet (.slice A4_ p0.answers.length c5_) (.slice A8_ p0.answered.length c9_)) H0 cs2_ p0) (h7_ : Rows (eSl (eInt .i64)) H0 cs6_ p0.answers) (h11_ : Rows eBool H0 cs10_ p0.answered) {res : FleetFleet} (hm0 : fleet_Fleet_come p0 = some res) :
  OkM prog 41 [(.pointer (some ⟨g1_, 0, none⟩))].toArray w0 H0 M (fun H' O' v => ∃ (cs1 : List Value) (A1_0 : Option Addr) (c1_0 : Nat) (cs1_0 : List Value) (A1_1 : Option Addr) (c1_1 : Nat) (cs1_1 : List Value), v = (.tuple #[]) ∧ Enc.rep (eFleetFleet (.slice A1_0 res.answers.length c1_0) (.slice A1_1 res.answered.length c1_1)) H' cs1 res ∧ Rows (eSl (eInt .i64)) H' cs1_0 res.answers ∧ Rows eBool H' cs1_1 res.answered ∧ O' 0 = some (.blk g1_ cs1 93) ∧ O' 1 = some (.row A1_0 c1_0 61 (eSl (eInt .i64)).size res.answers.length cs1_0) ∧ O' 2 = some (.row A1_1 c1_1 4 eBool.size res.answered.length cs1_1)) := by
 unfold fleet_Fleet_come at hm0
 refine (okM_of_W Tryz.func41 rfl Tryz.ntmps41 (rs := []) rfl rfl ?_)
 obtain ⟨o1, hm1, hm0⟩ := bindSome hm0
 have hO := hO.pick [(0, .blk g1_ cs2_ 93), (1, .row A4_ c5_ 61 (eSl (eInt .i64)).size p0.answers.length cs6_), (2, .row A8_ c9_ 4 eBool.size p0.answered.length cs10_)] ⟨rfl, rfl, rfl, trivial⟩
 refine W.blockLoop (fun r w => ∃ (v7 : FleetFleet) (cs8 : List Value) (A10 : Option Addr) (c11 : Nat) (cs12 : List Value) (A14 : Option Addr) (c15 : Nat) (cs16 : List Value) (H2 : IHeap), v7 = o1 ∧ Le H0 H2 ∧ St w0 H0 M H2 (ol [(0, .blk g1_ cs8 93), (1, .row A10 c11 61 (eSl (eInt .i64)).size v7.answers.length cs12), (2, .row A14 c15 4 eBool.size v7.answered.length cs16)]) w ∧ Enc.rep (eFleetFleet (.slice A10 v7.answers.length c11) (.slice A14 v7.answered.length c15)) H2 cs8 v7 ∧ Rows (eSl (eInt .i64)) H2 cs12 v7.answers ∧ Rows eBool H2 cs16 v7.answered) (fun k r w => ∃ (rest5 : Nat) (v7 : FleetFleet) (cs8 : List Value) (A10 : Option Addr) (c11 : Nat) (cs12 : List Value) (A14 : Option Addr) (c15 : Nat) (cs16 : List Value) (H2 : IHeap), rest5 = k ∧ fleet_Fleet_come_l1 rest5 v7 = some o1 ∧ Le H0 H2 ∧ St w0 H0 M H2 (ol [(0, .blk g1_ cs8 93), (1, .row A10 c11 61 (eSl (eInt .i64)).size v7.answers.length cs12), (2, .row A14 c15 4 eBool.size v7.answered.length cs16)]) w ∧ r 0 = (.pointer (some ⟨g1_, 0, none⟩)) ∧ Enc.rep (eFleetFleet (.slice A10 v7.answers.length c11) (.slice A14 v7.answered.length c15)) H2 cs8 v7 ∧ Rows (eSl (eInt .i64)) H2 cs12 v7.answers ∧ Rows eBool H2 cs16 v7.answered) FUEL ?_ ?_ ?_
 ·exact ⟨_, p0, cs2_, A4_, c5_, cs6_, A8_, c9_, cs10_, _, rfl, hm1, Le.refl _, hO, rfl, h3_, h7_, h11_⟩
 ·
  intro k r w
  rintro ⟨rest5, v7, cs8, A10, c11, cs12, A14, c15, cs16, H2, rfl, hm1, le3, hO, f0_1, h9, h13, h17⟩
  cases rest5 with
  | zero => rw [fleet_Fleet_come_l1] at hm1; cases hm1
  | succ rest5 =>
   rw [fleet_Fleet_come_l1] at hm1
   refine seq (seq ?_)
   have hO := hO.pick [(0, .blk g1_ cs8 93), (1, .row A10 c11 61 (eSl (eInt .i64)).size v7.answers.length cs12), (2, .row A14 c15 4 eBool.size v7.answered.length cs16)] ⟨rfl, rfl, rfl, trivial⟩
   refine W.draw (SD w0 H0 M H2 [(0, .blk g1_ cs8 93)]) (fun i => ([] : List Nat).contains i) mixed 19 rfl _ rfl ?_
   intro w18 hh1 hh2 hh3 hh4; have hO := hO.same hh1 hh2 hh3 hh4; clear hh1 hh2 hh3 hh4
   have hS : SD w0 H0 M H2 [(0, .blk g1_ cs8 93)] w18 := ⟨_, _, Le.refl _, hO, ⟨rfl, trivial⟩⟩
   refine take (i := 0) rfl (by kernel_rfl) (fun w hS => x_move (.pointer (some ⟨g1_, 0, none⟩)) f0_1) hS ?_
   refine take (i := 1) rfl (by kernel_rfl) (fun w hS => x_nilCheck rfl) hS ?_
   refine take (i := 2) rfl (by kernel_rfl) (fun w hS => x_fa rfl fo93_5) hS ?_
   obtain ⟨cs19, hr20, hc21⟩ := lFleetFleet_at_.part _ _ _ h9
   obtain rfl := hr20
   refine take (i := 3) rfl (by kernel_rfl) (fun w hS => x_ldD 0 (.int .i64 v7.at_) hS rfl rfl (hc21 0 _ rfl) one3) hS ?_
   refine take (i := 4) rfl (by kernel_rfl) (fun w hS => x_move (.pointer (some ⟨g1_, 0, none⟩)) f0_1) hS ?_
   refine take (i := 5) rfl (by kernel_rfl) (fun w hS => x_nilCheck rfl) hS ?_
   refine take (i := 6) rfl (by kernel_rfl) (fun w hS => x_fa rfl fo93_0) hS ?_
   refine take (i := 7) rfl (by kernel_rfl) (fun w hS => x_fa rfl fo24_1) hS ?_
   obtain ⟨cs22, hr23, hc24⟩ := (Part.comp lFleetFleet_m.part pApiModel_Layers) _ _ _ h9
   obtain ⟨A25, c26, rfl, h27⟩ := hr23
   refine take (i := 8) rfl (by kernel_rfl) (fun w hS => x_ldD 0 (.slice A25 v7.m.Layers.length c26) hS rfl rfl (hc24 0 _ rfl) one22) hS ?_
   refine take (i := 9) rfl (by kernel_rfl) (fun w hS => x_len rfl underlying22) hS ?_
   refine take (i := 10) rfl (by kernel_rfl) (fun w hS => x_lss rfl rfl) hS ?_
   refine take (i := 11) rfl (by kernel_rfl) (fun w hS => x_move (.bool (decide (v7.at_ < (v7.m.Layers.length : Int)))) rfl) hS ?_
   refine WA.gtake (i := 12) rfl rfl rfl (by kernel_rfl) (fun hb w hS => x_move (.pointer (some ⟨g1_, 0, none⟩)) f0_1) hS ?_
   refine WA.gtake (i := 13) rfl rfl rfl (by kernel_rfl) (fun hb w hS => x_nilCheck (gv hb)) hS ?_
   refine WA.gtake (i := 14) rfl rfl rfl (by kernel_rfl) (fun hb w hS => x_fa (gv hb) fo93_8) hS ?_
   refine WA.gtake (i := 15) rfl rfl rfl (by kernel_rfl) (fun hb w hS => x_ldD 0 (.slice A14 v7.answered.length c15) hS rfl (gv hb) (gFleetFleet_answered h9) one91) hS ?_
   refine WA.only (i := 16) (by kernel_rfl) rfl ?_
   rcases btest hm1 with ⟨hb28, hm1⟩ | ⟨hb28, hm1⟩
   ·refine yes rfl (kb rfl hb28) ?_
    obtain ⟨t29, ht30, hm1⟩ := bindSome hm1
    refine o_callL (args := [(.slice A14 v7.answered.length c15), (.bool false)]) [(2, .row A14 c15 4 eBool.size v7.answered.length cs16)] hO ⟨rfl, trivial⟩ (names_nd (ns := [2]) rfl (by decide)) go82 (slices_Contains_bool_ro0_ok (hO.enterL [(2, .row A14 c15 4 eBool.size v7.answered.length cs16)] ⟨rfl, trivial⟩ (names_nd (ns := [2]) rfl (by decide))) h17 ht30) (args2 (by exact gkT hb28) rfl) ?_
    rintro _ H31 O34 w32 le33 ⟨rfl, hk35⟩ hO
    have hO := hO.named [.row A14 c15 4 eBool.size v7.answered.length cs16] ⟨hk35, trivial⟩
    have hS : SD w0 H0 M H2 [(0, .blk g1_ cs8 93)] _ := ⟨_, _, le33, hO, ⟨rfl, trivial⟩⟩
    refine nil ⟨fun _ => hS, ?_⟩
    refine WA.takeY (i := 17) rfl rfl (kb rfl hb28) (by kernel_rfl) (fun w hS => x_not rfl) hS ?_
    refine take (i := 18) rfl (by kernel_rfl) (fun w hS => x_pick_t (kb rfl hb28) (.bool (!t29)) rfl) hS ?_
    refine WA.done (by kernel_rfl) ?_
    refine test rfl hm1 ?_ ?_
    ·intro hb36 hm1
     refine skip (W.block ?_)
     refine seq ?_
     have hO := hO.pick [(0, .blk g1_ cs8 93), (1, .row A10 c11 61 (eSl (eInt .i64)).size v7.answers.length cs12), (2, .row A14 c15 4 eBool.size v7.answered.length cs16)] ⟨rfl, rfl, rfl, trivial⟩
     refine W.draw (SD w0 H0 M H31 [(0, .blk g1_ cs8 93)]) (fun i => ([16] : List Nat).contains i) mixed 17 rfl _ rfl ?_
     intro w37 hh1 hh2 hh3 hh4; have hO := hO.same hh1 hh2 hh3 hh4; clear hh1 hh2 hh3 hh4
     have hS : SD w0 H0 M H31 [(0, .blk g1_ cs8 93)] w37 := ⟨_, _, Le.refl _, hO, ⟨rfl, trivial⟩⟩
     refine take (i := 0) rfl (by kernel_rfl) (fun w hS => x_move (.pointer (some ⟨g1_, 0, none⟩)) f0_1) hS ?_
     refine take (i := 1) rfl (by kernel_rfl) (fun w hS => x_move (.pointer (some ⟨g1_, 0, none⟩)) f0_1) hS ?_
     refine take (i := 2) rfl (by kernel_rfl) (fun w hS => x_nilCheck rfl) hS ?_
     refine take (i := 3) rfl (by kernel_rfl) (fun w hS => x_fa rfl fo93_4) hS ?_
     obtain ⟨cs38, hr39, hc40⟩ := lFleetFleet_tokens.part _ _ _ (Enc.mono _ le33 h9)
     obtain ⟨A41, c42, rfl, h43⟩ := hr39
     refine take (i := 4) rfl (by kernel_rfl) (fun w hS => x_ldD 0 (.slice A41 v7.tokens.length c42) hS rfl rfl (hc40 0 _ rfl) one25) hS ?_
     refine take (i := 5) rfl (by kernel_rfl) (fun w hS => x_move (.pointer (some ⟨g1_, 0, none⟩)) f0_1) hS ?_
     refine take (i := 6) rfl (by kernel_rfl) (fun w hS => x_nilCheck rfl) hS ?_
     refine take (i := 7) rfl (by kernel_rfl) (fun w hS => x_fa rfl fo93_6) hS ?_
     obtain ⟨cs44, hr45, hc46⟩ := lFleetFleet_parts.part _ _ _ (Enc.mono _ le33 h9)
     obtain ⟨A47, c48, rfl, h49⟩ := hr45
     refine take (i := 8) rfl (by kernel_rfl) (fun w hS => x_ldD 0 (.slice A47 v7.parts.length c48) hS rfl rfl (hc46 0 _ rfl) one90) hS ?_
     refine take (i := 9) rfl (by kernel_rfl) (fun w hS => x_move (.pointer (some ⟨g1_, 0, none⟩)) f0_1) hS ?_
     refine take (i := 10) rfl (by kernel_rfl) (fun w hS => x_nilCheck rfl) hS ?_
     refine take (i := 11) rfl (by kernel_rfl) (fun w hS => x_fa rfl fo93_7) hS ?_
     refine take (i := 12) rfl (by kernel_rfl) (fun w hS => x_ldD 0 (.slice A10 v7.answers.length c11) hS rfl rfl (gFleetFleet_answers (Enc.mono _ le33 h9)) one25) hS ?_
     refine WA.only (i := 13) (by kernel_rfl) rfl ?_
     obtain ⟨t50, ht51, hm1⟩ := bindSome hm1
     refine o_callL (args := [(.slice A41 v7.tokens.length c42), (.slice A47 v7.parts.length c48), (.slice A10 v7.answers.length c11)]) [(1, .row A10 c11 61 (eSl (eInt .i64)).size v7.answers.length cs12)] hO ⟨rfl, trivial⟩ (names_nd (ns := [1]) rfl (by decide)) go83 (model_Combine_ro2_ok (hO.enterL [(1, .row A10 c11 61 (eSl (eInt .i64)).size v7.answers.length cs12)] ⟨rfl, trivial⟩ (names_nd (ns := [1]) rfl (by decide))) h43 h49 (h13.up le33) ht51) rfl ?_
     rintro _ H52 O55 w53 le54 ⟨A57, c58, rfl, h59, hk56⟩ hO
     have hO := hO.named [.row A10 c11 61 (eSl (eInt .i64)).size v7.answers.length cs12] ⟨hk56, trivial⟩
     have hS : SD w0 H0 M H31 [(0, .blk g1_ cs8 93)] _ := ⟨_, _, le54, hO, ⟨rfl, trivial⟩⟩
     refine nil ⟨fun _ => hS, ?_⟩
     refine take (i := 14) rfl (by kernel_rfl) (fun w hS => x_nilCheck rfl) hS ?_
     refine take (i := 15) rfl (by kernel_rfl) (fun w hS => x_fa rfl fo93_4) hS ?_
     refine WA.only (i := 16) (by kernel_rfl) rfl ?_
     refine o_stP 0 (.slice A57 t50.length c58) hO rfl (Enc.mono _ (le33.trans le54) h9) lFleetFleet_tokens rfl rfl rfl ⟨A57, c58, rfl, h59⟩ siz25 ?_
     intro cs60 w61 (hr62 : Enc.rep (eFleetFleet (.slice A10 v7.answers.length c11) (.slice A14 v7.answered.length c15)) H52 cs60 ({ v7 with tokens := t50 } : FleetFleet)) hO
     refine nil ⟨fun h => absurd h (by decide), ?_⟩
     refine WA.done (by kernel_rfl) ?_
     refine seq (region (val (x_move (.pointer (some ⟨g1_, 0, none⟩)) f0_1) ?_))
     refine val (x_nilCheck rfl) ?_
     refine val (x_fa rfl fo93_5) ?_
     obtain ⟨cs63, hr64, hc65⟩ := lFleetFleet_at_.part _ _ _ hr62
     obtain rfl := hr64
     refine val (x_ld 0 (.int .i64 (({ v7 with tokens := t50 } : FleetFleet).at_)) hO rfl rfl (hc65 0 _ rfl) one3) ?_
     refine val (x_add rfl rfl) ?_
     refine val (x_nilCheck rfl) ?_
     refine val (x_fa rfl fo93_5) ?_
     refine o_stP 0 (.int .i64 (i64w ((({ v7 with tokens := t50 } : FleetFleet).at_) + 1))) hO rfl hr62 lFleetFleet_at_ rfl rfl rfl rfl siz3 ?_
     intro cs66 w67 (hr68 : Enc.rep (eFleetFleet (.slice A10 v7.answers.length c11) (.slice A14 v7.answered.length c15)) H52 cs66 ({ ({ v7 with tokens := t50 } : FleetFleet) with at_ := i64w ((({ v7 with tokens := t50 } : FleetFleet).at_) + 1) } : FleetFleet)) hO
     refine nil (region (val (x_move (.pointer (some ⟨g1_, 0, none⟩)) f0_1) ?_))
     obtain ⟨t69, ht70, hm1⟩ := bindSome hm1
     refine o_callL (args := [(.pointer (some ⟨g1_, 0, none⟩))]) [(0, .blk g1_ cs66 93), (1, .row A10 c11 61 (eSl (eInt .i64)).size v7.answers.length cs12), (2, .row A14 c15 4 eBool.size v7.answered.length cs16)] hO ⟨rfl, rfl, rfl, trivial⟩ (names_nd (ns := [0, 1, 2]) rfl (by decide)) go40 (fleet_Fleet_begin_ok (p0 := ({ ({ v7 with tokens := t50 } : FleetFleet) with at_ := i64w ((({ v7 with tokens := t50 } : FleetFleet).at_) + 1) } : FleetFleet)) (hO.enterL [(0, .blk g1_ cs66 93), (1, .row A10 c11 61 (eSl (eInt .i64)).size v7.answers.length cs12), (2, .row A14 c15 4 eBool.size v7.answered.length cs16)] ⟨rfl, rfl, rfl, trivial⟩ (names_nd (ns := [0, 1, 2]) rfl (by decide))) hr68 (h13.up (le33.trans le54)) (h17.up (le33.trans le54)) ht70) rfl ?_
     rintro _ H71 O74 w72 le73 ⟨cs75, A78, c79, cs80, A83, c84, cs85, rfl, h76, h81, h86, hk77, hk82, hk87⟩ hO
     have hO := hO.named [.blk g1_ cs75 93, .row A78 c79 61 (eSl (eInt .i64)).size t69.answers.length cs80, .row A83 c84 4 eBool.size t69.answered.length cs85] ⟨hk77, hk82, hk87, trivial⟩
     refine nil ?_
     exact ⟨_, Nat.lt_succ_self _, rest5, t69, cs75, A78, c79, cs80, A83, c84, cs85, H71, rfl, hm1, (le3.trans (le33.trans (le54.trans le73))), hO.pick _ ⟨rfl, rfl, rfl, trivial⟩, f0_1, h76, h81, h86⟩
    ·intro hb36 hm1
     refine W.exit _ rfl ?_
     obtain rfl := sj hm1
     exact ⟨v7, cs8, A10, c11, cs12, A14, c15, cs16, H31, rfl, (le3.trans le33), hO.pick _ ⟨rfl, rfl, rfl, trivial⟩, (Enc.mono _ le33 h9), (h13.up le33), (h17.up le33)⟩
   ·refine no rfl (kb rfl hb28) rfl ?_
    have hS : SD w0 H0 M H2 [(0, .blk g1_ cs8 93)] _ := ⟨_, _, (Le.refl _), hO, ⟨rfl, trivial⟩⟩
    refine nil ⟨fun _ => hS, ?_⟩
    refine WA.takeN (i := 17) rfl rfl (kb rfl hb28) rfl (by kernel_rfl) hS ?_
    refine take (i := 18) rfl (by kernel_rfl) (fun w hS => x_pick_f (kb rfl hb28) (.bool false) rfl) hS ?_
    refine WA.done (by kernel_rfl) ?_
    refine W.cond_f rfl ?_
    refine W.exit _ rfl ?_
    obtain rfl := sj hm1
    exact ⟨v7, cs8, A10, c11, cs12, A14, c15, cs16, H2, rfl, le3, hO.pick _ ⟨rfl, rfl, rfl, trivial⟩, h9, h13, h17⟩
 ·intro r w
  rintro ⟨v90, cs91, A93, c94, cs95, A97, c98, cs99, H88, rfl, le89, hO, h92, h96, h100⟩
  obtain rfl := sj hm0
  exact ⟨[], trivial, H88, _, ⟨cs91, A93, c94, cs95, A97, c98, cs99, rfl, h92, h96, h100, rfl, rfl, rfl⟩, hO.relabel [(0, .blk g1_ cs91 93), (1, .row A93 c94 61 (eSl (eInt .i64)).size v90.answers.length cs95), (2, .row A97 c98 4 eBool.size v90.answered.length cs99)] ⟨rfl, rfl, rfl, trivial⟩ (names_nd (ns := [0, 1, 2]) rfl (by decide))⟩
end Go.Sw

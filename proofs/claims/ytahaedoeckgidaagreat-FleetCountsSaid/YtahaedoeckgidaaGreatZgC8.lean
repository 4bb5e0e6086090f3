/- The calls compute the mirrors. -/
import Derived.Test.YtahaedoeckgidaaGreatZgF
import Derived.Test.YtahaedoeckgidaaGreatZgC2
import Derived.Test.YtahaedoeckgidaaGreatZgC3
import Derived.Test.YtahaedoeckgidaaGreatZgC4
import Derived.Test.YtahaedoeckgidaaGreatZgC6
import Derived.Test.YtahaedoeckgidaaGreatZgC7
set_option linter.unusedVariables false
set_option linter.unusedSimpArgs false
set_option maxRecDepth 100000
namespace Go.Sw
open WL (val nil gval yes no)
open W (region test seq skip)
open WA (take)
open Go.Proofs.Tryz
open Go.Proofs
theorem fleet_New_1_ok {w0 : World} {H0 : IHeap} (hS : Sub H0 w0) {p0 : ApiLayer} {q_0 : PlaceMap}  {A1_ : Option Addr} {c1_ : Nat} {A2_ : Option Addr} {c2_ : Nat} {a3_ : Addr} (h1_ : RS (eSl (eInt .i64)) H0 A1_ c1_ p0.Gate) (h2_ : RS eApiExpert H0 A2_ c2_ p0.Experts) (h3_ : At ePlaceMap H0 a3_ q_0) {res : Bool} (hm0 : fleet_New_1 p0 q_0 = some res) :
  Ok prog 38 [(.agg #[(.slice A1_ p0.Gate.length c1_), (.slice A2_ p0.Experts.length c2_), (.int .i64 p0.Capacity)]), (.pointer (some a3_))].toArray w0 H0 (fun H' v => v = (.bool res)) := by
 unfold fleet_New_1 at hm0
 refine ok_of_W Tryz.func38 rfl Tryz.ntmps38 (ts := [3]) rfl rfl rfl ?_
 have hO := St.start hS
 refine seq (region (o_box 0 [(.slice A1_ p0.Gate.length c1_), (.slice A2_ p0.Experts.length c2_), (.int .i64 p0.Capacity)] hO rfl ?_))
 intro g1 w2 hO
 refine val (x_assign (.bool false) rfl) ?_
 refine nil (seq (region (val (x_fa rfl fo41_1) ?_)))
 refine val (x_ld 0 (.slice A2_ p0.Experts.length c2_) hO rfl rfl rfl one39) ?_
 refine val (x_len rfl underlying39) ?_
 refine val (x_faAt rfl h3_ fo27_1) ?_
 obtain ⟨A3, c4, h5, hc6⟩ := At.sl (h3_.part pPlaceMap_Holders)
 refine val (x_ldc rfl (hc6 _ hO.sub) one25) ?_
 refine val (x_len rfl underlying25) ?_
 refine val (x_gtr rfl rfl) ?_
 refine val (x_assign (.bool (decide ((q_0.Holders.length : Int) < (p0.Experts.length : Int)))) rfl) ?_
 refine nil (W.ret ?_)
 obtain rfl := sj hm0
 exact ⟨H0, rfl, hO.done⟩
theorem slices_IndexFunc_api_Layer_fleet_New_1_ok {w0 : World} {H0 : IHeap} (hS : Sub H0 w0) {p0 : List ApiLayer} {q1_0 : PlaceMap}  {A1_ : Option Addr} {c1_ : Nat} {a2_ : Addr} (h1_ : RS eApiLayer H0 A1_ c1_ p0) (h2_ : At ePlaceMap H0 a2_ q1_0) {res : Int} (hm0 : slices_IndexFunc_api_Layer_fleet_New_1 p0 q1_0 = some res) :
  Ok prog 80 [(.slice A1_ p0.length c1_), (.func (.func 38) #[] #[(.pointer (some a2_))])].toArray w0 H0 (fun H' v => v = (.int .i64 res)) := by
 unfold slices_IndexFunc_api_Layer_fleet_New_1 at hm0
 refine ok_of_W Tryz.func80 rfl Tryz.ntmps80 (ts := [4]) rfl rfl rfl ?_
 have hO := St.start hS
 refine seq (region (val (x_assign (.int .i64 0) rfl) ?_))
 refine nil (seq (seq (region (val (x_move (.slice A1_ p0.length c1_) rfl) ?_))))
 refine val (x_len rfl underlying22) ?_
 refine val (x_move (.int .i64 0) rfl) ?_
 refine nil ?_
 obtain ⟨o1, hm1, hm0⟩ := bindSome hm0
 have hO := hO.pick [] trivial
 refine W.blockLoop (fun r w => ∃ (i4 : Nat) (H2 : IHeap), .out () = o1 ∧ Le H0 H2 ∧ St w0 H0 [] H2 (ol []) w) (fun k r w => ∃ (i4 : Nat) (rest5 : List ApiLayer) (H2 : IHeap), k = rest5.length ∧ List.drop i4 p0 = rest5 ∧ slices_IndexFunc_api_Layer_fleet_New_1_l1 q1_0 rest5 i4 = some o1 ∧ Le H0 H2 ∧ St w0 H0 [] H2 (ol []) w ∧ r 0 = (.slice A1_ p0.length c1_) ∧ r 1 = (.func (.func 38) #[] #[(.pointer (some a2_))]) ∧ r 7 = (.int .i64 (p0.length : Int)) ∧ r 8 = (.int .i64 (i4 : Int))) (List.length p0) ?_ ?_ ?_
 ·exact ⟨0, _, _, rfl, rfl, hm1, Le.refl _, hO, rfl, rfl, rfl, rfl⟩
 ·
  intro k r w
  rintro ⟨i4, rest5, H2, rfl, hd7, hm1, le3, hO, f0_1, f1_1, f7_1, f8_1⟩
  cases rest5 with
  | nil =>
   rw [slices_IndexFunc_api_Layer_fleet_New_1_l1] at hm1
   have hlt := drop_nil hd7
   refine seq (region (val (x_lss f8_1 f7_1) ?_))
   refine nil (seq (W.cond_f (kb rfl hlt) ?_))
   refine W.exit _ rfl ?_
   obtain rfl := sj hm1
   exact ⟨i4, H2, rfl, le3, hO.pick _ trivial⟩
  | cons x6 rest5 =>
   rw [slices_IndexFunc_api_Layer_fleet_New_1_l1] at hm1
   have hlt := drop_lt hd7
   have hnx := drop_next hd7
   have hinc := inc_len hlt h1_.1 h1_.2.1
   refine seq (region (val (x_lss f8_1 f7_1) ?_))
   refine nil (seq (W.cond_t (kb rfl hlt) ?_))
   refine skip (seq (W.block ?_))
   refine seq (region (val (x_move (.int .i64 (i4 : Int)) f8_1) ?_))
   refine val (x_assign (.int .i64 (i4 : Int)) rfl) ?_
   refine nil (seq (region (val (x_move (.func (.func 38) #[] #[(.pointer (some a2_))]) f1_1) ?_)))
   refine val (x_move (.slice A1_ p0.length c1_) f0_1) ?_
   refine val (x_move (.int .i64 (i4 : Int)) rfl) ?_
   obtain ⟨a8, h9, hA10, hin⟩ := RS.atR (h1_.up le3) hd7
   refine val (x_ia (sA rfl hA10) rfl sle22 hin) ?_
   obtain ⟨cs11, hr12, hc13⟩ := At.agg h9
   obtain ⟨A14, c15, A17, c18, rfl, h16, h19⟩ := hr12
   refine val (x_ldv rfl (hc13 _ _ _ hO.sub agg41)) ?_
   obtain ⟨t20, ht21, hm1⟩ := bindSome hm1
   refine o_callv (args := [(.agg #[(.slice A14 x6.Gate.length c15), (.slice A17 x6.Experts.length c18), (.int .i64 x6.Capacity)])]) (caps := [(.pointer (some a2_))]) hO rfl go38 (fleet_New_1_ok hO.sub h16 h19 (h2_.up le3) ht21) rfl ?_
   rintro _ H22 w23 le24 rfl hO
   refine nil (test rfl hm1 ?_ ?_)
   ·intro hb25 hm1
    refine seq (region (val (x_move (.int .i64 (i4 : Int)) rfl) ?_))
    refine val (x_assign (.int .i64 (i4 : Int)) rfl) ?_
    refine nil (W.ret ?_)
    obtain rfl := sj hm1
    dsimp only at hm0
    obtain rfl := sj hm0
    exact ⟨H22, rfl, hO.done⟩
   ·intro hb25 hm1
    refine skip (region (val (x_add f8_1 rfl) ?_))
    refine val (x_move (.int .i64 (i64w ((i4 : Int) + 1))) rfl) ?_
    refine nil ?_
    exact ⟨_, Nat.lt_succ_self _, i4 + 1, rest5, H22, rfl, hnx, hm1, (le3.trans le24), hO.pick _ trivial, f0_1, f1_1, f7_1, (incv hinc)⟩
 ·intro r w
  rintro ⟨i28, H26, rfl, le27, hO⟩
  dsimp only at hm0
  refine seq (region (val (x_assign (.int .i64 (-1)) rfl) ?_))
  refine nil (W.ret ?_)
  obtain rfl := sj hm0
  exact ⟨H26, rfl, hO.done⟩
theorem slices_ContainsFunc_api_Layer_fleet_New_1_ok {w0 : World} {H0 : IHeap} (hS : Sub H0 w0) {p0 : List ApiLayer} {q1_0 : PlaceMap}  {A1_ : Option Addr} {c1_ : Nat} {a2_ : Addr} (h1_ : RS eApiLayer H0 A1_ c1_ p0) (h2_ : At ePlaceMap H0 a2_ q1_0) {res : Bool} (hm0 : slices_ContainsFunc_api_Layer_fleet_New_1 p0 q1_0 = some res) :
  Ok prog 37 [(.slice A1_ p0.length c1_), (.func (.func 38) #[] #[(.pointer (some a2_))])].toArray w0 H0 (fun H' v => v = (.bool res)) := by
 unfold slices_ContainsFunc_api_Layer_fleet_New_1 at hm0
 refine ok_of_W Tryz.func37 rfl Tryz.ntmps37 (ts := [4]) rfl rfl rfl ?_
 have hO := St.start hS
 refine seq (region (val (x_assign (.bool false) rfl) ?_))
 refine nil (seq (region (val (x_move (.slice A1_ p0.length c1_) rfl) ?_)))
 refine val (x_move (.func (.func 38) #[] #[(.pointer (some a2_))]) rfl) ?_
 obtain ⟨t1, ht2, hm0⟩ := bindSome hm0
 refine o_call hO go80 (slices_IndexFunc_api_Layer_fleet_New_1_ok hO.sub h1_ h2_ ht2) rfl ?_
 rintro _ H3 w4 le5 rfl hO
 refine val (x_geq rfl rfl) ?_
 refine val (x_assign (.bool (decide (0 ≤ t1))) rfl) ?_
 refine nil (W.ret ?_)
 obtain rfl := sj hm0
 exact ⟨H3, rfl, hO.done⟩
theorem fleet_New_ok {w0 : World} {H0 : IHeap} (hS : Sub H0 w0) {p0 : ApiModel} {p1 : PlaceMap} {p2 : List (List Int)}  {A1_ : Option Addr} {c1_ : Nat} {A2_ : Option Addr} {c2_ : Nat} {A3_ : Option Addr} {c3_ : Nat} (h1_ : RS eApiLayer H0 A1_ c1_ p0.Layers) (h2_ : RS (eSl (eInt .i64)) H0 A2_ c2_ p1.Holders) (h3_ : RS (eSl (eInt .i64)) H0 A3_ c3_ p2) {res : (Option FleetFleet) × Int} (hm0 : fleet_New p0 p1 p2 = some res) :
  OkO prog 11 [(.agg #[(.int .i64 p0.Dim), (.slice A1_ p0.Layers.length c1_)]), (.agg #[(.int .i64 p1.Epoch), (.slice A2_ p1.Holders.length c2_)]), (.slice A3_ p2.length c3_)].toArray w0 H0 (fun H' O' v => (res.1 = none ∧ v = (.tuple #[(.pointer none), (.int .i64 res.2)])) ∨ (∃ (x : FleetFleet) (g : Nat) (cs1 : List Value) (A1_0 : Option Addr) (c1_0 : Nat) (cs1_0 : List Value) (A1_1 : Option Addr) (c1_1 : Nat) (cs1_1 : List Value), res.1 = some x ∧ v = (.tuple #[(.pointer (some ⟨g, 0, none⟩)), (.int .i64 res.2)]) ∧ Enc.rep (eFleetFleet (.slice A1_0 x.answers.length c1_0) (.slice A1_1 x.answered.length c1_1)) H' cs1 x ∧ Rows (eSl (eInt .i64)) H' cs1_0 x.answers ∧ Rows eBool H' cs1_1 x.answered ∧ O' 0 = some (.blk g cs1 93) ∧ O' 1 = some (.row A1_0 c1_0 61 (eSl (eInt .i64)).size x.answers.length cs1_0) ∧ O' 2 = some (.row A1_1 c1_1 4 eBool.size x.answered.length cs1_1))) := by
 unfold fleet_New at hm0
 refine (okO_of_W Tryz.func11 rfl Tryz.ntmps11 (rs := [.tmp 6, .tmp 7]) rfl rfl ?_)
 have hO := St.start hS
 refine seq (region (o_box 0 [(.int .i64 p0.Dim), (.slice A1_ p0.Layers.length c1_)] hO rfl ?_))
 intro g1 w2 hO
 refine o_box 1 [(.int .i64 p1.Epoch), (.slice A2_ p1.Holders.length c2_)] hO rfl ?_
 intro g3 w4 hO
 refine val (x_assign (.pointer none) rfl) ?_
 refine val (x_assign (.int .i64 0) rfl) ?_
 refine nil (seq (seq (region (val (x_lds 0 [(.int .i64 p0.Dim), (.slice A1_ p0.Layers.length c1_)] hO rfl rfl agg24 rfl rfl) ?_))))
 obtain ⟨t5, ht6, hm0⟩ := bindSome hm0
 refine o_call hO go34 (model_Right_ok hO.sub h1_ ht6) rfl ?_
 rintro _ H7 w8 le9 rfl hO
 refine val (x_not rfl) ?_
 refine val (x_move (.bool (!t5)) rfl) ?_
 refine gval rfl rfl (fun hb => x_lds 0 [(.int .i64 p0.Dim), (.slice A1_ p0.Layers.length c1_)] hO rfl rfl agg24 rfl rfl) ?_
 refine gval rfl rfl (fun hb => x_move (.slice A3_ p2.length c3_) rfl) ?_
 rcases btest hm0 with ⟨hb10, hm0⟩ | ⟨hb10, hm0⟩
 ·refine no rfl (kb rfl hb10) rfl ?_
  refine no rfl (kb rfl hb10) rfl ?_
  refine val (x_pick_t (kb rfl hb10) (.bool true) rfl) ?_
  refine val (x_move (.bool true) rfl) ?_
  refine no rfl rfl rfl ?_
  refine no rfl rfl rfl ?_
  refine no rfl rfl rfl ?_
  refine val (x_pick_t rfl (.bool true) rfl) ?_
  refine val (x_move (.bool true) rfl) ?_
  refine no rfl rfl rfl ?_
  refine no rfl rfl rfl ?_
  refine no rfl rfl rfl ?_
  refine no rfl rfl rfl ?_
  refine val (x_pick_t rfl (.bool true) rfl) ?_
  refine nil (W.cond_t rfl ?_)
  refine seq (region (val (x_assign (.pointer none) rfl) ?_))
  refine val (x_assign (.int .i64 1) rfl) ?_
  refine nil (W.ret ?_)
  obtain rfl := sj hm0
  exact ⟨[(.pointer none), (.int .i64 1)], ⟨rfl, rfl, trivial⟩, H7, _, .inl ⟨rfl, rfl⟩, hO⟩
 ·refine yes rfl (kb rfl hb10) ?_
  obtain ⟨t11, ht12, hm0⟩ := bindSome hm0
  refine o_call hO go35 (model_Tokens_ok hO.sub (h1_.up le9) (h3_.up le9) ht12) (args2 (by exact gkF hb10) (by exact gkF hb10)) ?_
  rintro _ H13 w14 le15 rfl hO
  refine yes rfl (kb rfl hb10) ?_
  refine val (x_not rfl) ?_
  refine val (x_pick_f (kb rfl hb10) (.bool (!t11)) rfl) ?_
  refine val (x_move (.bool (!t11)) rfl) ?_
  refine gval rfl rfl (fun hb => x_lds 1 [(.int .i64 p1.Epoch), (.slice A2_ p1.Holders.length c2_)] hO rfl rfl agg27 rfl rfl) ?_
  rcases btest hm0 with ⟨hb16, hm0⟩ | ⟨hb16, hm0⟩
  ·refine no rfl (kb rfl hb16) rfl ?_
   refine no rfl (kb rfl hb16) rfl ?_
   refine val (x_pick_t (kb rfl hb16) (.bool true) rfl) ?_
   refine val (x_move (.bool true) rfl) ?_
   refine no rfl rfl rfl ?_
   refine no rfl rfl rfl ?_
   refine no rfl rfl rfl ?_
   refine no rfl rfl rfl ?_
   refine val (x_pick_t rfl (.bool true) rfl) ?_
   refine nil (W.cond_t rfl ?_)
   refine seq (region (val (x_assign (.pointer none) rfl) ?_))
   refine val (x_assign (.int .i64 1) rfl) ?_
   refine nil (W.ret ?_)
   obtain rfl := sj hm0
   exact ⟨[(.pointer none), (.int .i64 1)], ⟨rfl, rfl, trivial⟩, H13, _, .inl ⟨rfl, rfl⟩, hO⟩
  ·refine yes rfl (kb rfl hb16) ?_
   obtain ⟨t17, ht18, hm0⟩ := bindSome hm0
   refine o_call hO go36 (place_Right_ok hO.sub (h2_.up (le9.trans le15)) ht18) (args1 (by exact gkF hb16)) ?_
   rintro _ H19 w20 le21 rfl hO
   refine yes rfl (kb rfl hb16) ?_
   refine val (x_not rfl) ?_
   refine val (x_pick_f (kb rfl hb16) (.bool (!t17)) rfl) ?_
   refine val (x_move (.bool (!t17)) rfl) ?_
   refine gval rfl rfl (fun hb => x_fa rfl fo24_1) ?_
   refine gval rfl rfl (fun hb => x_ld 0 (.slice A1_ p0.Layers.length c1_) hO rfl (gv hb) rfl one22) ?_
   rcases btest hm0 with ⟨hb22, hm0⟩ | ⟨hb22, hm0⟩
   ·refine no rfl (kb rfl hb22) rfl ?_
    refine no rfl (kb rfl hb22) rfl ?_
    refine val (x_pick_t (kb rfl hb22) (.bool true) rfl) ?_
    refine nil (W.cond_t rfl ?_)
    refine seq (region (val (x_assign (.pointer none) rfl) ?_))
    refine val (x_assign (.int .i64 1) rfl) ?_
    refine nil (W.ret ?_)
    obtain rfl := sj hm0
    exact ⟨[(.pointer none), (.int .i64 1)], ⟨rfl, rfl, trivial⟩, H19, _, .inl ⟨rfl, rfl⟩, hO⟩
   ·obtain ⟨H23, le24, h25, hO⟩ := hO.freezeBlk (en := ePlaceMap) (x := p1) 1 rfl ⟨A2_, c2_, rfl, (h2_.up (le9.trans (le15.trans le21)))⟩
    refine yes rfl (kb rfl hb22) ?_
    refine val (x_fun [(.pointer (some (⟨g3, 0, none⟩)))] rfl) ?_
    refine yes rfl (kb rfl hb22) ?_
    obtain ⟨t26, ht27, hm0⟩ := bindSome hm0
    refine o_call hO go37 (slices_ContainsFunc_api_Layer_fleet_New_1_ok hO.sub (h1_.up (le9.trans (le15.trans (le21.trans le24)))) h25 ht27) (args2 (by exact gkF hb22) rfl) ?_
    rintro _ H28 w29 le30 rfl hO
    refine val (x_pick_f (kb rfl hb22) (.bool t26) rfl) ?_
    refine nil (test rfl hm0 ?_ ?_)
    ·intro hb31 hm0
     refine seq (region (val (x_assign (.pointer none) rfl) ?_))
     refine val (x_assign (.int .i64 1) rfl) ?_
     refine nil (W.ret ?_)
     obtain rfl := sj hm0
     exact ⟨[(.pointer none), (.int .i64 1)], ⟨rfl, rfl, trivial⟩, H28, _, .inl ⟨rfl, rfl⟩, hO⟩
    ·intro hb31 hm0
     refine skip (seq ?_)
     have hO := hO.pick [(0, .blk g1 [(.int .i64 p0.Dim), (.slice A1_ p0.Layers.length c1_)] 24)] ⟨rfl, trivial⟩
     refine W.draw (SD w0 H0 [] H28 [(0, .blk g1 [(.int .i64 p0.Dim), (.slice A1_ p0.Layers.length c1_)] 24)]) (fun i => ([] : List Nat).contains i) mixed 7 rfl _ rfl ?_
     intro w32 hh1 hh2 hh3 hh4; have hO := hO.same hh1 hh2 hh3 hh4; clear hh1 hh2 hh3 hh4
     have hS : SD w0 H0 [] H28 [(0, .blk g1 [(.int .i64 p0.Dim), (.slice A1_ p0.Layers.length c1_)] 24)] w32 := ⟨_, _, Le.refl _, hO, ⟨rfl, trivial⟩⟩
     refine take (i := 0) rfl (by kernel_rfl) (fun w hS => x_ldsD 0 [(.int .i64 p0.Dim), (.slice A1_ p0.Layers.length c1_)] hS rfl rfl agg24 rfl rfl) hS ?_
     obtain ⟨cs33, hr34, hc35⟩ := At.agg (h25.up le30)
     obtain ⟨A36, c37, rfl, h38⟩ := hr34
     refine take (i := 1) rfl (by kernel_rfl) (fun w hS => x_ldv rfl (hc35 _ _ _ hS.sub agg27)) hS ?_
     refine take (i := 2) rfl (by kernel_rfl) (fun w hS => x_move (.slice A3_ p2.length c3_) rfl) hS ?_
     refine WA.only (i := 3) (by kernel_rfl) rfl ?_
     obtain ⟨t39, ht40, hm0⟩ := bindSome hm0
     refine o_callO hO go39 (slices_Clone__int_ok hO.sub (h3_.up (le9.trans (le15.trans (le21.trans (le24.trans le30))))) ht40) rfl ?_
     rintro _ H41 O49 w42 le43 ⟨A44, c45, cs46, rfl, hr47, hk48⟩ hO'
     have hO := hO.callRow hO' 2 0 _ hk48; clear hO'
     have hS : SD w0 H0 [] H28 [(0, .blk g1 [(.int .i64 p0.Dim), (.slice A1_ p0.Layers.length c1_)] 24)] _ := ⟨_, _, le43, hO, ⟨rfl, trivial⟩⟩
     refine nil ⟨fun _ => hS, ?_⟩
     obtain ⟨H50, le51, h52, hO⟩ := hO.freezeRow (en := (eSl (eInt .i64))) 2 rfl rfl rfl hr47
     have hO := hO.nilRowT (α := List Int) 3 none 61 (eSl (eInt .i64))
     have hO := hO.nilRowT (α := Bool) 4 none 4 eBool
     have hr53 : Enc.rep (eFleetFleet (.slice none ([] : List (List Int)).length 0) (.slice none ([] : List Bool).length 0)) H50 (([(.int .i64 p0.Dim), (.slice A1_ p0.Layers.length c1_)] : List Value) ++ (([(.int .i64 p1.Epoch), (.slice A36 p1.Holders.length c37)] : List Value) ++ (((List.replicate 5 (.slice none 0 0)) : List Value) ++ (([.slice none 0 0] : List Value) ++ (([(.slice A44 t39.length c45)] : List Value) ++ (([.int .i64 0] : List Value) ++ (([.slice none 0 0] : List Value) ++ (([.slice none 0 0] : List Value) ++ (([.slice none 0 0] : List Value) ++ ([] : List Value)))))))))) (⟨p0, p1, (List.replicate 5 ([] : List LedgerEntry)), ([] : List Str), t39, (0 : Int), ([] : List ModelPart), ([] : List (List Int)), ([] : List Bool)⟩ : FleetFleet) := ⟨_, _, rfl, ⟨A1_, c1_, rfl, (h1_.up (le9.trans (le15.trans (le21.trans (le24.trans (le30.trans (le43.trans le51)))))))⟩, ⟨_, _, rfl, ⟨A36, c37, rfl, (h38.up (le43.trans le51))⟩, ⟨_, _, rfl, (rep_repl 5 ⟨none, 0, rfl, RS.nil0 _ _⟩), ⟨_, _, rfl, ⟨none, 0, rfl, RS.nil0 _ _⟩, ⟨_, _, rfl, ⟨A44, c45, rfl, h52⟩, ⟨_, _, rfl, rfl, ⟨_, _, rfl, ⟨none, 0, rfl, RS.nil0 _ _⟩, ⟨_, _, rfl, ⟨rfl, rfl⟩, ⟨_, _, rfl, ⟨rfl, rfl⟩, rfl⟩⟩⟩⟩⟩⟩⟩⟩⟩
     refine take (i := 4) rfl (by kernel_rfl) (fun w hS => x_build [(0, (.agg #[(.int .i64 p0.Dim), (.slice A1_ p0.Layers.length c1_)])), (1, (.agg #[(.int .i64 p1.Epoch), (.slice A36 p1.Holders.length c37)])), (4, (.slice A44 t39.length c45))] (([(.int .i64 p0.Dim), (.slice A1_ p0.Layers.length c1_)] : List Value) ++ (([(.int .i64 p1.Epoch), (.slice A36 p1.Holders.length c37)] : List Value) ++ (((List.replicate 5 (.slice none 0 0)) : List Value) ++ (([.slice none 0 0] : List Value) ++ (([(.slice A44 t39.length c45)] : List Value) ++ (([.int .i64 0] : List Value) ++ (([.slice none 0 0] : List Value) ++ (([.slice none 0 0] : List Value) ++ (([.slice none 0 0] : List Value) ++ ([] : List Value)))))))))) ⟨rfl, rfl, rfl, rfl, rfl, rfl, trivial⟩ (by kernel_rfl)) hS ?_
     refine WA.only (i := 5) (by kernel_rfl) rfl ?_
     refine o_box 5 (([(.int .i64 p0.Dim), (.slice A1_ p0.Layers.length c1_)] : List Value) ++ (([(.int .i64 p1.Epoch), (.slice A36 p1.Holders.length c37)] : List Value) ++ (((List.replicate 5 (.slice none 0 0)) : List Value) ++ (([.slice none 0 0] : List Value) ++ (([(.slice A44 t39.length c45)] : List Value) ++ (([.int .i64 0] : List Value) ++ (([.slice none 0 0] : List Value) ++ (([.slice none 0 0] : List Value) ++ (([.slice none 0 0] : List Value) ++ ([] : List Value)))))))))) hO rfl ?_
     intro g54 w55 hO
     have hS : SD w0 H0 [] H28 [(0, .blk g1 [(.int .i64 p0.Dim), (.slice A1_ p0.Layers.length c1_)] 24)] _ := ⟨_, _, (le43.trans le51), hO, ⟨rfl, trivial⟩⟩
     refine nil ⟨fun _ => hS, ?_⟩
     refine take (i := 6) rfl (by kernel_rfl) (fun w hS => x_assign (.pointer (some ⟨g54, 0, none⟩)) rfl) hS ?_
     refine WA.done (by kernel_rfl) ?_
     refine seq (region (val (x_move (.pointer (some ⟨g54, 0, none⟩)) rfl) ?_))
     obtain ⟨t56, ht57, hm0⟩ := bindSome hm0
     refine o_callL (args := [(.pointer (some ⟨g54, 0, none⟩))]) [(5, .blk g54 (([(.int .i64 p0.Dim), (.slice A1_ p0.Layers.length c1_)] : List Value) ++ (([(.int .i64 p1.Epoch), (.slice A36 p1.Holders.length c37)] : List Value) ++ (((List.replicate 5 (.slice none 0 0)) : List Value) ++ (([.slice none 0 0] : List Value) ++ (([(.slice A44 t39.length c45)] : List Value) ++ (([.int .i64 0] : List Value) ++ (([.slice none 0 0] : List Value) ++ (([.slice none 0 0] : List Value) ++ (([.slice none 0 0] : List Value) ++ ([] : List Value)))))))))) 93), (3, .row none 0 61 (eSl (eInt .i64)).size ([] : List (List Int)).length []), (4, .row none 0 4 eBool.size ([] : List Bool).length [])] hO ⟨rfl, rfl, rfl, trivial⟩ (names_nd (ns := [5, 3, 4]) rfl (by decide)) go40 (fleet_Fleet_begin_ok (p0 := (⟨p0, p1, (List.replicate 5 ([] : List LedgerEntry)), ([] : List Str), t39, (0 : Int), ([] : List ModelPart), ([] : List (List Int)), ([] : List Bool)⟩ : FleetFleet)) (hO.enterL [(5, .blk g54 (([(.int .i64 p0.Dim), (.slice A1_ p0.Layers.length c1_)] : List Value) ++ (([(.int .i64 p1.Epoch), (.slice A36 p1.Holders.length c37)] : List Value) ++ (((List.replicate 5 (.slice none 0 0)) : List Value) ++ (([.slice none 0 0] : List Value) ++ (([(.slice A44 t39.length c45)] : List Value) ++ (([.int .i64 0] : List Value) ++ (([.slice none 0 0] : List Value) ++ (([.slice none 0 0] : List Value) ++ (([.slice none 0 0] : List Value) ++ ([] : List Value)))))))))) 93), (3, .row none 0 61 (eSl (eInt .i64)).size ([] : List (List Int)).length []), (4, .row none 0 4 eBool.size ([] : List Bool).length [])] ⟨rfl, rfl, rfl, trivial⟩ (names_nd (ns := [5, 3, 4]) rfl (by decide))) hr53 Rows.nil Rows.nil ht57) rfl ?_
     rintro _ H58 O61 w59 le60 ⟨cs62, A65, c66, cs67, A70, c71, cs72, rfl, h63, h68, h73, hk64, hk69, hk74⟩ hO
     have hO := hO.named [.blk g54 cs62 93, .row A65 c66 61 (eSl (eInt .i64)).size t56.answers.length cs67, .row A70 c71 4 eBool.size t56.answered.length cs72] ⟨hk64, hk69, hk74, trivial⟩
     refine nil (seq (region (val (x_move (.pointer (some ⟨g54, 0, none⟩)) rfl) ?_)))
     obtain ⟨t75, ht76, hm0⟩ := bindSome hm0
     refine o_callL (args := [(.pointer (some ⟨g54, 0, none⟩))]) [(5, .blk g54 cs62 93), (3, .row A65 c66 61 (eSl (eInt .i64)).size t56.answers.length cs67), (4, .row A70 c71 4 eBool.size t56.answered.length cs72)] hO ⟨rfl, rfl, rfl, trivial⟩ (names_nd (ns := [5, 3, 4]) rfl (by decide)) go41 (fleet_Fleet_come_ok (p0 := t56) (hO.enterL [(5, .blk g54 cs62 93), (3, .row A65 c66 61 (eSl (eInt .i64)).size t56.answers.length cs67), (4, .row A70 c71 4 eBool.size t56.answered.length cs72)] ⟨rfl, rfl, rfl, trivial⟩ (names_nd (ns := [5, 3, 4]) rfl (by decide))) h63 h68 h73 ht76) rfl ?_
     rintro _ H77 O80 w78 le79 ⟨cs81, A84, c85, cs86, A89, c90, cs91, rfl, h82, h87, h92, hk83, hk88, hk93⟩ hO
     have hO := hO.named [.blk g54 cs81 93, .row A84 c85 61 (eSl (eInt .i64)).size t75.answers.length cs86, .row A89 c90 4 eBool.size t75.answered.length cs91] ⟨hk83, hk88, hk93, trivial⟩
     refine nil (seq (region (val (x_move (.pointer (some ⟨g54, 0, none⟩)) rfl) ?_)))
     refine val (x_assign (.pointer (some ⟨g54, 0, none⟩)) rfl) ?_
     refine val (x_assign (.int .i64 0) rfl) ?_
     refine nil (W.ret ?_)
     obtain rfl := sj hm0
     exact ⟨[(.pointer (some ⟨g54, 0, none⟩)), (.int .i64 0)], ⟨rfl, rfl, trivial⟩, H77, _, .inr ⟨t75, g54, cs81, A84, c85, cs86, A89, c90, cs91, rfl, rfl, h82, h87, h92, rfl, rfl, rfl⟩, hO.relabel [(5, .blk g54 cs81 93), (3, .row A84 c85 61 (eSl (eInt .i64)).size t75.answers.length cs86), (4, .row A89 c90 4 eBool.size t75.answered.length cs91)] ⟨rfl, rfl, rfl, trivial⟩ (names_nd (ns := [5, 3, 4]) rfl (by decide))⟩
theorem slices_Delete_string_ok {w0 : World} {H0 : IHeap} {p0 : List Str} {p1 p2 : Int} {A1_ : Option Addr} {c1_ : Nat} {M : List Nat} {cells_ : List Value} (hO : St w0 H0 M H0 (ol [(0, .row A1_ c1_ 9 eStr.size p0.length cells_)]) w0) (h1_ : Rows eStr H0 cells_ p0) {res : List Str} (hm0 : slices_Delete_string p0 p1 p2 = some res) :
  OkM prog 91 [(.slice A1_ p0.length c1_), (.int .i64 p1), (.int .i64 p2)].toArray w0 H0 M (fun H' O' v => ∃ (A : Option Addr) (c : Nat) (cs : List Value), v = .slice A res.length c ∧ Rows eStr H' cs res ∧ O' 0 = some (.row A c 9 eStr.size res.length cs)) := by
 obtain ⟨hok, hm0⟩ := chk hm0
 obtain rfl := sj hm0
 have hle := row_le (k := 0) hO rfl
 refine (okM_of_W Tryz.func91 rfl Tryz.ntmps91 (rs := [.tmp 6]) rfl rfl ?_)
 refine seq (region (val (x_assign (.slice none 0 0) rfl) ?_))
 refine nil (seq (region (val (x_move (.slice A1_ p0.length c1_) rfl) ?_)))
 refine val (x_move (.int .i64 p1) rfl) ?_
 refine val (x_move (.int .i64 p2) rfl) ?_
 refine val (x_move (.slice A1_ p0.length c1_) rfl) ?_
 refine val (x_len rfl underlying55) ?_
 refine val (x_sl3 (xs := p0) sle55 rfl hle rfl rfl rfl rfl hok) ?_
 refine nil (seq (seq (region (val (x_move (.int .i64 p1) rfl) ?_))))
 refine val (x_move (.int .i64 p2) rfl) ?_
 refine val (x_eql rfl rfl) ?_
 refine nil (W.cond (p1 == p2) rfl (fun hb => ?_) (fun hb => ?_))
 ·have he := delete_eq hok hb
  refine seq (region (val (x_move (.slice A1_ p0.length c1_) rfl) ?_))
  refine val (x_assign (.slice A1_ p0.length c1_) rfl) ?_
  refine nil (W.ret ?_)
  rw [he]
  exact ⟨[_], ⟨rfl, trivial⟩, H0, _, ⟨A1_, c1_, cells_, rfl, h1_, rfl⟩, hO⟩
 ·have hn : inb 0 p0.length = true := by simp [cutOk] at hok; simp at hb; simp [inb]; omega
  obtain ⟨hc, g, o, hA⟩ := hO.rowA (k := 0) rfl hn
  have hokp := cutOkP hok
  have hoks := cutOkS hok
  refine skip (seq (region (val (x_move (.slice A1_ p0.length c1_) rfl) ?_)))
  refine val (x_len rfl underlying55) ?_
  refine val (x_assign (.int .i64 (p0.length : Int)) rfl) ?_
  refine nil (seq (W.draw (SD w0 H0 M H0 []) (fun i => ([] : List Nat).contains i) mixed 8 rfl _ rfl ?_))
  intro w1 hh1 hh2 hh3 hh4; have hO := hO.same hh1 hh2 hh3 hh4; clear hh1 hh2 hh3 hh4
  have hS : SD w0 H0 M H0 [] w1 := ⟨_, _, Le.refl _, hO, trivial⟩
  refine take (i := 0) rfl (by kernel_rfl) (fun w hS => x_move (.slice A1_ p0.length c1_) rfl) hS ?_
  refine take (i := 1) rfl (by kernel_rfl) (fun w hS => x_move (.int .i64 p1) rfl) hS ?_
  refine take (i := 2) rfl (by kernel_rfl) (fun w hS => x_pre (xs := p0) sle55 hA rfl hle rfl hokp) hS ?_
  refine take (i := 3) rfl (by kernel_rfl) (fun w hS => x_move (.slice A1_ p0.length c1_) rfl) hS ?_
  refine take (i := 4) rfl (by kernel_rfl) (fun w hS => x_move (.int .i64 p2) rfl) hS ?_
  refine take (i := 5) rfl (by kernel_rfl) (fun w hS => x_sll (xs := p0) sle55 rfl hle rfl hoks) hS ?_
  refine WA.only (i := 6) (by kernel_rfl) rfl ?_
  refine o_appCutI (en := eStr) (xs := p0) 0 hO rfl h1_ hok hb rfl rfl sli55 underlying55 ?_
  intro cs2 w2 hr2 hO
  have hS : SD w0 H0 M H0 [] _ := ⟨_, _, Le.refl _, hO, trivial⟩
  refine nil ⟨fun _ => hS, ?_⟩
  refine WA.only (i := 7) (by kernel_rfl) rfl ?_
  refine val (x_assign (.slice A1_ (p0.take p1.toNat ++ p0.drop p2.toNat).length c1_) rfl) ?_
  refine nil ⟨fun _ => hS, ?_⟩
  refine WA.done (by kernel_rfl) ?_
  obtain ⟨hok3, hml, hcut⟩ := delete_tail hok
  have hle3 := row_le (k := 0) hO rfl
  have hle4 : (p0.take p1.toNat ++ p0.drop p2.toNat).length ≤ c1_ := by simp [cutOk] at hok3; simp; omega
  refine seq (region (val (x_move (.slice A1_ (p0.take p1.toNat ++ p0.drop p2.toNat).length c1_) rfl) ?_))
  refine val (x_move (.slice A1_ (p0.take p1.toNat ++ p0.drop p2.toNat).length c1_) rfl) ?_
  refine val (x_len rfl underlying55) ?_
  refine val (x_move (.int .i64 (p0.length : Int)) rfl) ?_
  refine val (x_slTail (ys := moved p0 p1.toNat p2.toNat) sle55 rfl rfl rfl hle3 (by rw [hml]) hok3 hle4) ?_
  refine o_clear (en := eStr) (xs := moved p0 p1.toNat p2.toNat) (b := ((p0.take p1.toNat ++ p0.drop p2.toNat).length : Int)) 0 hO rfl hr2 rfl sli55 rfl hok3 ?_
  intro cs3 w3 hr3 hO
  rw [hcut] at hr3 hO
  refine nil (seq (region (val (x_move (.slice A1_ (p0.take p1.toNat ++ p0.drop p2.toNat).length c1_) rfl) ?_)))
  refine val (x_assign (.slice A1_ (p0.take p1.toNat ++ p0.drop p2.toNat).length c1_) rfl) ?_
  refine nil (W.ret ?_)
  exact ⟨[_], ⟨rfl, trivial⟩, H0, _, ⟨A1_, c1_, cs3, rfl, hr3, rfl⟩, hO⟩
theorem bag_Take_ok {w0 : World} {H0 : IHeap} (hS : Sub H0 w0) {p0 : List Str} {p1 : Int}  {A1_ : Option Addr} {c1_ : Nat} (h1_ : RS eStr H0 A1_ c1_ p0) {res : Str × (List Str) × Bool} (hm0 : bag_Take p0 p1 = some res) :
  Ok prog 47 [(.slice A1_ p0.length c1_), (.int .i64 p1)].toArray w0 H0 (fun H' v => ∃ (A1 : Option Addr) (c1 : Nat), v = (.tuple #[(vs res.1), (.slice A1 res.2.1.length c1), (.bool res.2.2)]) ∧ RS eStr H' A1 c1 res.2.1) := by
 unfold bag_Take at hm0
 refine ok_of_W Tryz.func47 rfl Tryz.ntmps47 (ts := [4, 5, 6]) rfl rfl rfl ?_
 have hO := St.start hS
 refine seq (region (val (x_assign (vs ([] : Str)) rfl) ?_))
 refine val (x_assign (.slice none 0 0) rfl) ?_
 refine val (x_assign (.bool false) rfl) ?_
 refine nil (seq (seq (region (val (x_move (.int .i64 p1) rfl) ?_))))
 refine val (x_lss rfl rfl) ?_
 refine val (x_move (.bool (decide (p1 < 0))) rfl) ?_
 refine gval rfl rfl (fun hb => x_move (.int .i64 p1) rfl) ?_
 refine gval rfl rfl (fun hb => x_move (.slice A1_ p0.length c1_) rfl) ?_
 refine gval rfl rfl (fun hb => x_len (gv hb) underlying55) ?_
 refine gval rfl rfl (fun hb => x_geq (gv hb) (gv hb)) ?_
 refine val (x_pick rfl (.bool ((decide (p1 < 0)) || (decide ((p0.length : Int) ≤ p1)))) pick_or) ?_
 refine nil (test rfl hm0 ?_ ?_)
 ·intro hb1 hm0
  refine seq (region (val (x_move (.slice A1_ p0.length c1_) rfl) ?_))
  obtain ⟨t2, ht3, hm0⟩ := bindSome hm0
  refine o_callO hO go71 (slices_Clone_string_ok hO.sub h1_ ht3) rfl ?_
  rintro _ H4 O12 w5 le6 ⟨A7, c8, cs9, rfl, hr10, hk11⟩ hO'
  have hO := hO.callRow hO' 0 0 _ hk11; clear hO'
  refine val (x_assign (vs ([] : Str)) rfl) ?_
  refine val (x_assign (.slice A7 t2.length c8) rfl) ?_
  refine val (x_assign (.bool false) rfl) ?_
  refine nil (W.ret ?_)
  obtain ⟨H13, le14, h15, hO⟩ := hO.freezeRow (en := eStr) 0 rfl rfl rfl hr10
  obtain rfl := sj hm0
  exact ⟨H13, ⟨A7, c8, rfl, h15⟩, hO.done⟩
 ·intro hb1 hm0
  refine skip (seq ?_)
  have hO := hO.pick [] trivial
  refine W.draw (SD w0 H0 [] H0 []) (fun i => ([] : List Nat).contains i) mixed 13 rfl _ rfl ?_
  intro w16 hh1 hh2 hh3 hh4; have hO := hO.same hh1 hh2 hh3 hh4; clear hh1 hh2 hh3 hh4
  have hS : SD w0 H0 [] H0 [] w16 := ⟨_, _, Le.refl _, hO, trivial⟩
  refine take (i := 0) rfl (by kernel_rfl) (fun w hS => x_move (.slice A1_ p0.length c1_) rfl) hS ?_
  refine take (i := 1) rfl (by kernel_rfl) (fun w hS => x_move (.int .i64 p1) rfl) hS ?_
  obtain ⟨hin20, hm0⟩ := chk hm0
  obtain ⟨a17, h18, hA19⟩ := RS.at_ h1_ hin20
  refine take (i := 2) rfl (by kernel_rfl) (fun w hS => x_ia (sA rfl hA19) rfl sle55 hin20) hS ?_
  refine take (i := 3) rfl (by kernel_rfl) (fun w hS => x_ldc rfl (h18.str _ hS.sub) one9) hS ?_
  refine take (i := 4) rfl (by kernel_rfl) (fun w hS => x_move (.slice A1_ p0.length c1_) rfl) hS ?_
  refine take (i := 6) rfl (by kernel_rfl) (fun w hS => x_move (.int .i64 p1) rfl) hS ?_
  refine take (i := 7) rfl (by kernel_rfl) (fun w hS => x_move (.int .i64 p1) rfl) hS ?_
  refine take (i := 8) rfl (by kernel_rfl) (fun w hS => x_add rfl rfl) hS ?_
  refine WA.only (i := 5) (by kernel_rfl) rfl ?_
  obtain ⟨t21, ht22, hm0⟩ := bindSome hm0
  refine o_callO hO go71 (slices_Clone_string_ok hO.sub h1_ ht22) rfl ?_
  rintro _ H23 O31 w24 le25 ⟨A26, c27, cs28, rfl, hr29, hk30⟩ hO'
  have hO := hO.callRow hO' 1 0 _ hk30; clear hO'
  have hS : SD w0 H0 [] H0 [] _ := ⟨_, _, le25, hO, trivial⟩
  refine nil ⟨fun _ => hS, ?_⟩
  refine WA.only (i := 9) (by kernel_rfl) rfl ?_
  obtain ⟨t32, ht33, hm0⟩ := bindSome hm0
  refine o_callM (args := [(.slice A26 t21.length c27), (.int .i64 p1), (.int .i64 (i64w (p1 + 1)))]) 1 hO rfl go91 (slices_Delete_string_ok (hO.enter 1 rfl) hr29 ht33) rfl ?_
  rintro _ H34 O37 w35 le36 ⟨A38, c39, cs40, rfl, hr41, hk42⟩ hO; rw [hk42] at hO
  have hS : SD w0 H0 [] H0 [] _ := ⟨_, _, (le25.trans le36), hO, trivial⟩
  refine nil ⟨fun _ => hS, ?_⟩
  refine take (i := 10) rfl (by kernel_rfl) (fun w hS => x_assign (vs (at0 p0 p1)) rfl) hS ?_
  refine take (i := 11) rfl (by kernel_rfl) (fun w hS => x_assign (.slice A38 t32.length c39) rfl) hS ?_
  refine take (i := 12) rfl (by kernel_rfl) (fun w hS => x_assign (.bool true) rfl) hS ?_
  refine WA.done (by kernel_rfl) ?_
  refine W.ret ?_
  obtain ⟨H44, le45, h46, hO⟩ := hO.freezeRow (en := eStr) 1 rfl rfl rfl hr41
  obtain rfl := sj hm0
  exact ⟨H44, ⟨A38, c39, rfl, h46⟩, hO.done⟩
theorem wire_number_ok {w0 : World} {H0 : IHeap} (hS : Sub H0 w0) {p0 : Str} {p1 : Int}    {res : Int} (hm0 : wire_number p0 p1 = some res) :
  Ok prog 92 [(vs p0), (.int .i64 p1)].toArray w0 H0 (fun H' v => v = (.int .i64 res)) := by
 unfold wire_number at hm0
 refine ok_of_W Tryz.func92 rfl Tryz.ntmps92 (ts := [4]) rfl rfl rfl ?_
 have hO := St.start hS
 refine seq (region (val (x_assign (.int .i64 0) rfl) ?_))
 refine nil (seq (region (val (x_assign (.int .i64 0) rfl) ?_)))
 refine nil (seq (seq (region (val (x_assign (.int .i64 3) rfl) ?_))))
 refine nil ?_
 obtain ⟨o1, hm1, hm0⟩ := bindSome hm0
 have hO := hO.pick [] trivial
 refine W.blockLoop (fun r w => ∃ (v7 : Int) (v8 : Int) (H2 : IHeap), (v7, v8) = o1 ∧ Le H0 H2 ∧ St w0 H0 [] H2 (ol []) w ∧ r 5 = (.int .i64 v7)) (fun k r w => ∃ (rest5 : Nat) (v7 : Int) (v8 : Int) (H2 : IHeap), rest5 = k ∧ wire_number_l1 p0 p1 rest5 v7 v8 = some o1 ∧ Le H0 H2 ∧ St w0 H0 [] H2 (ol []) w ∧ r 0 = (vs p0) ∧ r 1 = (.int .i64 p1) ∧ r 5 = (.int .i64 v7) ∧ r 6 = (.int .i64 v8)) FUEL ?_ ?_ ?_
 ·exact ⟨_, 0, 3, _, rfl, hm1, Le.refl _, hO, rfl, rfl, rfl, rfl⟩
 ·
  intro k r w
  rintro ⟨rest5, v7, v8, H2, rfl, hm1, le3, hO, f0_1, f1_1, f5_1, f6_1⟩
  cases rest5 with
  | zero => rw [wire_number_l1] at hm1; cases hm1
  | succ rest5 =>
   rw [wire_number_l1] at hm1
   refine seq (seq (region (val (x_move (.int .i64 v8) f6_1) ?_)))
   refine val (x_geq rfl rfl) ?_
   refine nil (test rfl hm1 ?_ ?_)
   ·intro hb9 hm1
    refine skip (seq (W.block ?_))
    refine region (val (x_move (.int .i64 v7) f5_1) ?_)
    refine val (x_shl rfl rfl rfl) ?_
    refine val (x_move (vs p0) f0_1) ?_
    refine val (x_move (.int .i64 p1) f1_1) ?_
    refine val (x_mul rfl rfl) ?_
    refine val (x_move (.int .i64 v8) f6_1) ?_
    refine val (x_add rfl rfl) ?_
    obtain ⟨hz10, hm1⟩ := chk hm1
    refine val (x_idx underlying9 rfl rfl hz10) ?_
    refine val (x_conv underlying5 underlying3 rfl) ?_
    refine val (x_or rfl rfl) ?_
    refine val (x_assign (.int .i64 (ibits .or .i64 (i64w (v7 * 2 ^ Int.toNat 8)) (i64w (chr p0 (i64w ((i64w (4 * p1)) + v8)))))) rfl) ?_
    refine nil (region (val (x_move (.int .i64 v8) f6_1) ?_))
    refine val (x_sub rfl rfl) ?_
    refine val (x_assign (.int .i64 (i64w (v8 - 1))) rfl) ?_
    refine nil ?_
    exact ⟨_, Nat.lt_succ_self _, rest5, ibits .or .i64 (i64w (v7 * 2 ^ Int.toNat 8)) (i64w (chr p0 (i64w ((i64w (4 * p1)) + v8)))), i64w (v8 - 1), H2, rfl, hm1, le3, hO.pick _ trivial, f0_1, f1_1, rfl, rfl⟩
   ·intro hb9 hm1
    refine W.exit _ rfl ?_
    obtain rfl := sj hm1
    exact ⟨v7, v8, H2, rfl, le3, hO.pick _ trivial, f5_1⟩
 ·intro r w
  rintro ⟨v13, v14, H11, rfl, le12, hO, f16⟩
  dsimp only at hm0
  refine seq (region (val (x_move (.int .i64 v13) f16) ?_))
  refine val (x_assign (.int .i64 v13) rfl) ?_
  refine nil (W.ret ?_)
  obtain rfl := sj hm0
  exact ⟨H11, rfl, hO.done⟩
theorem wire_signed_ok {w0 : World} {H0 : IHeap} (hS : Sub H0 w0) {p0 : Int}    {res : Int} (hm0 : wire_signed p0 = some res) :
  Ok prog 93 [(.int .i64 p0)].toArray w0 H0 (fun H' v => v = (.int .i64 res)) := by
 unfold wire_signed at hm0
 refine ok_of_W Tryz.func93 rfl Tryz.ntmps93 (ts := [2]) rfl rfl rfl ?_
 have hO := St.start hS
 refine seq (region (val (x_assign (.int .i64 0) rfl) ?_))
 refine nil (seq (region (val (x_move (.int .i64 p0) rfl) ?_)))
 refine val (x_conv underlying3 underlying21 rfl) ?_
 refine val (x_conv underlying21 underlying3 rfl) ?_
 refine val (x_assign (.int .i64 (i64w (i32w p0))) rfl) ?_
 refine nil (W.ret ?_)
 obtain rfl := sj hm0
 exact ⟨H0, rfl, hO.done⟩
theorem wire_Take_ok {w0 : World} {H0 : IHeap} (hS : Sub H0 w0) {p0 : Str}    {res : ApiMsg × Int} (hm0 : wire_Take p0 = some res) :
  Ok prog 48 [(vs p0)].toArray w0 H0 (fun H' v => ∃ (A1 : Option Addr) (c1 : Nat), v = (.tuple #[(.agg #[(.int .i64 res.1.Kind), (.int .i64 res.1.From), (.int .i64 res.1.To), (.int .i64 res.1.Seq), (.int .i64 res.1.Batch), (.int .i64 res.1.Layer), (.int .i64 res.1.Token), (.int .i64 res.1.Rank), (.int .i64 res.1.Expert), (.int .i64 res.1.Epoch), (.slice A1 res.1.Vec.length c1)]), (.int .i64 res.2)]) ∧ RS (eInt .i64) H' A1 c1 res.1.Vec) := by
 unfold wire_Take at hm0
 refine OkO.ok (okO_of_W Tryz.func48 rfl Tryz.ntmps48 (rs := [.cell 2 109, .tmp 3]) rfl rfl ?_)
 have hO := St.start hS
 refine seq (region (o_alloc 0 _ [(.int .i64 0), (.int .i64 0), (.int .i64 0), (.int .i64 0), (.int .i64 0), (.int .i64 0), (.int .i64 0), (.int .i64 0), (.int .i64 0), (.int .i64 0), (.slice none 0 0)] zer109 hO rfl ?_))
 intro g1 w2 hO
 refine val (x_assign (.int .i64 0) rfl) ?_
 refine nil (seq (seq (region (val (x_move (vs p0) rfl) ?_))))
 refine val (x_lens rfl underlying9) ?_
 refine val (x_lss rfl rfl) ?_
 refine val (x_move (.bool (decide ((p0.length : Int) < 52))) rfl) ?_
 refine gval rfl rfl (fun hb => x_move (vs p0) rfl) ?_
 rcases btest hm0 with ⟨hb3, hm0⟩ | ⟨hb3, hm0⟩
 ·refine no rfl (kb rfl hb3) rfl ?_
  refine no rfl (kb rfl hb3) rfl ?_
  refine no rfl (kb rfl hb3) rfl ?_
  refine no rfl (kb rfl hb3) rfl ?_
  refine no rfl (kb rfl hb3) rfl ?_
  refine val (x_pick_t (kb rfl hb3) (.bool true) rfl) ?_
  refine val (x_move (.bool true) rfl) ?_
  refine no rfl rfl rfl ?_
  refine no rfl rfl rfl ?_
  refine no rfl rfl rfl ?_
  refine no rfl rfl rfl ?_
  refine val (x_pick_t rfl (.bool true) rfl) ?_
  refine nil (W.cond_t rfl ?_)
  refine seq (region (val (x_build [] [(.int .i64 0), (.int .i64 0), (.int .i64 0), (.int .i64 0), (.int .i64 0), (.int .i64 0), (.int .i64 0), (.int .i64 0), (.int .i64 0), (.int .i64 0), (.slice none 0 0)] trivial (by kernel_rfl)) ?_))
  refine o_sts 0 [(.int .i64 0), (.int .i64 0), (.int .i64 0), (.int .i64 0), (.int .i64 0), (.int .i64 0), (.int .i64 0), (.int .i64 0), (.int .i64 0), (.int .i64 0), (.slice none 0 0)] hO rfl rfl rfl siz109 rfl (Nat.le_of_ble_eq_true rfl) (by simp [Value.oneCell', vs]) ?_
  intro w4 hO
  refine val (x_assign (.int .i64 2) rfl) ?_
  refine nil (W.ret ?_)
  obtain rfl := sj hm0
  exact ⟨[(.agg #[(.int .i64 0), (.int .i64 0), (.int .i64 0), (.int .i64 0), (.int .i64 0), (.int .i64 0), (.int .i64 0), (.int .i64 0), (.int .i64 0), (.int .i64 0), (.slice none 0 0)]), (.int .i64 2)], ⟨⟨_, rfl, hO.ldBlk 0 rfl agg109 rfl rfl⟩, rfl, trivial⟩, H0, _, ⟨none, 0, rfl, (RS.nil0 _ _)⟩, hO⟩
 ·refine yes rfl (kb rfl hb3) ?_
  obtain ⟨t5, ht6, hm0⟩ := bindSome hm0
  refine o_call hO go92 (wire_number_ok hO.sub  ht6) (args2 (by exact gkF hb3) rfl) ?_
  rintro _ H7 w8 le9 rfl hO
  refine yes rfl (kb rfl hb3) ?_
  refine val (x_move (vs p0) rfl) ?_
  refine yes rfl (kb rfl hb3) ?_
  refine val (x_lens rfl underlying9) ?_
  refine yes rfl (kb rfl hb3) ?_
  refine val (x_sub rfl rfl) ?_
  refine yes rfl (kb rfl hb3) ?_
  refine val (x_neq rfl rfl) ?_
  refine val (x_pick_f (kb rfl hb3) (.bool (t5 != (i64w ((p0.length : Int) - 4)))) rfl) ?_
  refine val (x_move (.bool (t5 != (i64w ((p0.length : Int) - 4)))) rfl) ?_
  refine gval rfl rfl (fun hb => x_move (vs p0) rfl) ?_
  refine gval rfl rfl (fun hb => x_lens (gv hb) underlying9) ?_
  rcases btest hm0 with ⟨hb10, hm0⟩ | ⟨hb10, hm0⟩
  ·refine no rfl (kb rfl hb10) rfl ?_
   refine no rfl (kb rfl hb10) rfl ?_
   refine val (x_pick_t (kb rfl hb10) (.bool true) rfl) ?_
   refine nil (W.cond_t rfl ?_)
   refine seq (region (val (x_build [] [(.int .i64 0), (.int .i64 0), (.int .i64 0), (.int .i64 0), (.int .i64 0), (.int .i64 0), (.int .i64 0), (.int .i64 0), (.int .i64 0), (.int .i64 0), (.slice none 0 0)] trivial (by kernel_rfl)) ?_))
   refine o_sts 0 [(.int .i64 0), (.int .i64 0), (.int .i64 0), (.int .i64 0), (.int .i64 0), (.int .i64 0), (.int .i64 0), (.int .i64 0), (.int .i64 0), (.int .i64 0), (.slice none 0 0)] hO rfl rfl rfl siz109 rfl (Nat.le_of_ble_eq_true rfl) (by simp [Value.oneCell', vs]) ?_
   intro w11 hO
   refine val (x_assign (.int .i64 2) rfl) ?_
   refine nil (W.ret ?_)
   obtain rfl := sj hm0
   exact ⟨[(.agg #[(.int .i64 0), (.int .i64 0), (.int .i64 0), (.int .i64 0), (.int .i64 0), (.int .i64 0), (.int .i64 0), (.int .i64 0), (.int .i64 0), (.int .i64 0), (.slice none 0 0)]), (.int .i64 2)], ⟨⟨_, rfl, hO.ldBlk 0 rfl agg109 rfl rfl⟩, rfl, trivial⟩, H7, _, ⟨none, 0, rfl, (RS.nil0 _ _)⟩, hO⟩
  ·refine yes rfl (kb rfl hb10) ?_
   refine val (x_rem (by exact gkF hb10) rfl rfl) ?_
   refine yes rfl (kb rfl hb10) ?_
   refine val (x_neq rfl rfl) ?_
   refine val (x_pick_f (kb rfl hb10) (.bool ((Int.tmod (p0.length : Int) 4) != 0)) rfl) ?_
   refine nil (test rfl hm0 ?_ ?_)
   ·intro hb12 hm0
    refine seq (region (val (x_build [] [(.int .i64 0), (.int .i64 0), (.int .i64 0), (.int .i64 0), (.int .i64 0), (.int .i64 0), (.int .i64 0), (.int .i64 0), (.int .i64 0), (.int .i64 0), (.slice none 0 0)] trivial (by kernel_rfl)) ?_))
    refine o_sts 0 [(.int .i64 0), (.int .i64 0), (.int .i64 0), (.int .i64 0), (.int .i64 0), (.int .i64 0), (.int .i64 0), (.int .i64 0), (.int .i64 0), (.int .i64 0), (.slice none 0 0)] hO rfl rfl rfl siz109 rfl (Nat.le_of_ble_eq_true rfl) (by simp [Value.oneCell', vs]) ?_
    intro w13 hO
    refine val (x_assign (.int .i64 2) rfl) ?_
    refine nil (W.ret ?_)
    obtain rfl := sj hm0
    exact ⟨[(.agg #[(.int .i64 0), (.int .i64 0), (.int .i64 0), (.int .i64 0), (.int .i64 0), (.int .i64 0), (.int .i64 0), (.int .i64 0), (.int .i64 0), (.int .i64 0), (.slice none 0 0)]), (.int .i64 2)], ⟨⟨_, rfl, hO.ldBlk 0 rfl agg109 rfl rfl⟩, rfl, trivial⟩, H7, _, ⟨none, 0, rfl, (RS.nil0 _ _)⟩, hO⟩
   ·intro hb12 hm0
    refine skip (seq (region (val (x_move (vs p0) rfl) ?_)))
    refine val (x_lens rfl underlying9) ?_
    refine val (x_quo rfl rfl rfl) ?_
    refine val (x_sub rfl rfl) ?_
    refine val (x_assign (.int .i64 (i64w ((i64w (Int.tdiv (p0.length : Int) 4)) - 1))) rfl) ?_
    refine nil (seq (seq ?_))
    have hO := hO.pick [(0, .blk g1 [(.int .i64 0), (.int .i64 0), (.int .i64 0), (.int .i64 0), (.int .i64 0), (.int .i64 0), (.int .i64 0), (.int .i64 0), (.int .i64 0), (.int .i64 0), (.slice none 0 0)] 109)] ⟨rfl, trivial⟩
    refine W.draw (SD w0 H0 [] H7 [(0, .blk g1 [(.int .i64 0), (.int .i64 0), (.int .i64 0), (.int .i64 0), (.int .i64 0), (.int .i64 0), (.int .i64 0), (.int .i64 0), (.int .i64 0), (.int .i64 0), (.slice none 0 0)] 109)]) (fun i => ([] : List Nat).contains i) mixed 9 rfl _ rfl ?_
    intro w14 hh1 hh2 hh3 hh4; have hO := hO.same hh1 hh2 hh3 hh4; clear hh1 hh2 hh3 hh4
    have hS : SD w0 H0 [] H7 [(0, .blk g1 [(.int .i64 0), (.int .i64 0), (.int .i64 0), (.int .i64 0), (.int .i64 0), (.int .i64 0), (.int .i64 0), (.int .i64 0), (.int .i64 0), (.int .i64 0), (.slice none 0 0)] 109)] w14 := ⟨_, _, Le.refl _, hO, ⟨rfl, trivial⟩⟩
    refine take (i := 0) rfl (by kernel_rfl) (fun w hS => x_move (vs p0) rfl) hS ?_
    refine take (i := 1) rfl (by kernel_rfl) (fun w hS => x_move (.int .i64 (i64w ((i64w (Int.tdiv (p0.length : Int) 4)) - 1))) rfl) hS ?_
    refine take (i := 3) rfl (by kernel_rfl) (fun w hS => x_move (vs p0) rfl) hS ?_
    refine take (i := 4) rfl (by kernel_rfl) (fun w hS => x_move (.int .i64 (i64w ((i64w (Int.tdiv (p0.length : Int) 4)) - 1))) rfl) hS ?_
    refine take (i := 5) rfl (by kernel_rfl) (fun w hS => x_mul rfl rfl) hS ?_
    obtain ⟨hz15, hm0⟩ := chk hm0
    refine take (i := 6) rfl (by kernel_rfl) (fun w hS => x_cutlh underlying9 rfl rfl rfl hz15) hS ?_
    refine WA.only (i := 2) (by kernel_rfl) rfl ?_
    obtain ⟨t16, ht17, hm0⟩ := bindSome hm0
    refine o_call hO go92 (wire_number_ok hO.sub  ht17) rfl ?_
    rintro _ H18 w19 le20 rfl hO
    have hS : SD w0 H0 [] H7 [(0, .blk g1 [(.int .i64 0), (.int .i64 0), (.int .i64 0), (.int .i64 0), (.int .i64 0), (.int .i64 0), (.int .i64 0), (.int .i64 0), (.int .i64 0), (.int .i64 0), (.slice none 0 0)] 109)] _ := ⟨_, _, le20, hO, ⟨rfl, trivial⟩⟩
    refine nil ⟨fun _ => hS, ?_⟩
    refine WA.only (i := 7) (by kernel_rfl) rfl ?_
    obtain ⟨t21, ht22, hm0⟩ := bindSome hm0
    refine o_call hO go59 (crc_Sum_ok hO.sub  ht22) rfl ?_
    rintro _ H23 w24 le25 rfl hO
    have hS : SD w0 H0 [] H7 [(0, .blk g1 [(.int .i64 0), (.int .i64 0), (.int .i64 0), (.int .i64 0), (.int .i64 0), (.int .i64 0), (.int .i64 0), (.int .i64 0), (.int .i64 0), (.int .i64 0), (.slice none 0 0)] 109)] _ := ⟨_, _, (le20.trans le25), hO, ⟨rfl, trivial⟩⟩
    refine nil ⟨fun _ => hS, ?_⟩
    refine take (i := 8) rfl (by kernel_rfl) (fun w hS => x_neq rfl rfl) hS ?_
    refine WA.done (by kernel_rfl) ?_
    refine test rfl hm0 ?_ ?_
    ·intro hb26 hm0
     refine seq (region (val (x_build [] [(.int .i64 0), (.int .i64 0), (.int .i64 0), (.int .i64 0), (.int .i64 0), (.int .i64 0), (.int .i64 0), (.int .i64 0), (.int .i64 0), (.int .i64 0), (.slice none 0 0)] trivial (by kernel_rfl)) ?_))
     refine o_sts 0 [(.int .i64 0), (.int .i64 0), (.int .i64 0), (.int .i64 0), (.int .i64 0), (.int .i64 0), (.int .i64 0), (.int .i64 0), (.int .i64 0), (.int .i64 0), (.slice none 0 0)] hO rfl rfl rfl siz109 rfl (Nat.le_of_ble_eq_true rfl) (by simp [Value.oneCell', vs]) ?_
     intro w27 hO
     refine val (x_assign (.int .i64 9) rfl) ?_
     refine nil (W.ret ?_)
     obtain rfl := sj hm0
     exact ⟨[(.agg #[(.int .i64 0), (.int .i64 0), (.int .i64 0), (.int .i64 0), (.int .i64 0), (.int .i64 0), (.int .i64 0), (.int .i64 0), (.int .i64 0), (.int .i64 0), (.slice none 0 0)]), (.int .i64 9)], ⟨⟨_, rfl, hO.ldBlk 0 rfl agg109 rfl rfl⟩, rfl, trivial⟩, H23, _, ⟨none, 0, rfl, (RS.nil0 _ _)⟩, hO⟩
    ·intro hb26 hm0
     refine skip (seq (region (val (x_move (.int .i64 (i64w ((i64w (Int.tdiv (p0.length : Int) 4)) - 1))) rfl) ?_)))
     refine o_make (en := (eInt .i64)) (kx := .i64) (m := i64w ((i64w (Int.tdiv (p0.length : Int) 4)) - 1)) 1 (0 : Int) hO sli61 rfl rfl rfl rfl hm0 ?_
     intro g28 cs29 w30 hr31 hO hm0
     refine val (x_assign (.slice (some ⟨g28, 0, none⟩) (List.replicate (Int.toNat (i64w ((i64w (Int.tdiv (p0.length : Int) 4)) - 1))) (0 : Int)).length (Int.toNat (i64w ((i64w (Int.tdiv (p0.length : Int) 4)) - 1)))) rfl) ?_
     refine nil (seq (seq (region (val (x_move (.slice (some ⟨g28, 0, none⟩) (List.replicate (Int.toNat (i64w ((i64w (Int.tdiv (p0.length : Int) 4)) - 1))) (0 : Int)).length (Int.toNat (i64w ((i64w (Int.tdiv (p0.length : Int) 4)) - 1)))) rfl) ?_))))
     refine val (x_len rfl underlying61) ?_
     refine val (x_move (.int .i64 0) rfl) ?_
     refine nil ?_
     obtain ⟨hlim1, hm0⟩ := chk hm0
     obtain ⟨o32, hm1, hm0⟩ := bindSome hm0
     have hO := hO.pick [(0, .blk g1 [(.int .i64 0), (.int .i64 0), (.int .i64 0), (.int .i64 0), (.int .i64 0), (.int .i64 0), (.int .i64 0), (.int .i64 0), (.int .i64 0), (.int .i64 0), (.slice none 0 0)] 109), (1, .row (some ⟨g28, 0, none⟩) (Int.toNat (i64w ((i64w (Int.tdiv (p0.length : Int) 4)) - 1))) 3 (eInt .i64).size (List.replicate (Int.toNat (i64w ((i64w (Int.tdiv (p0.length : Int) 4)) - 1))) (0 : Int)).length cs29)] ⟨rfl, rfl, trivial⟩
     refine W.blockLoop (fun r w => ∃ (v38 : List Int) (A39 : Option Addr) (c40 : Nat) (cs41 : List Value) (i35 : Nat) (H33 : IHeap), v38 = o32 ∧ Le H23 H33 ∧ St w0 H0 [] H33 (ol [(0, .blk g1 [(.int .i64 0), (.int .i64 0), (.int .i64 0), (.int .i64 0), (.int .i64 0), (.int .i64 0), (.int .i64 0), (.int .i64 0), (.int .i64 0), (.int .i64 0), (.slice none 0 0)] 109), (1, .row A39 c40 3 (eInt .i64).size v38.length cs41)]) w ∧ r 2 = (.pointer (some ⟨g1, 0, none⟩)) ∧ r 5 = (.slice A39 v38.length c40) ∧ Rows (eInt .i64) H33 cs41 v38) (fun k r w => ∃ (i35 : Nat) (rest36 : Nat) (v38 : List Int) (A39 : Option Addr) (c40 : Nat) (cs41 : List Value) (H33 : IHeap), rest36 = k ∧ Int.toNat (((List.replicate (Int.toNat (i64w ((i64w (Int.tdiv (p0.length : Int) 4)) - 1))) (0 : Int)).length : Int) - (i35 : Int)) = rest36 ∧ wire_Take_l1 p0 rest36 i35 v38 = some o32 ∧ Le H23 H33 ∧ St w0 H0 [] H33 (ol [(0, .blk g1 [(.int .i64 0), (.int .i64 0), (.int .i64 0), (.int .i64 0), (.int .i64 0), (.int .i64 0), (.int .i64 0), (.int .i64 0), (.int .i64 0), (.int .i64 0), (.slice none 0 0)] 109), (1, .row A39 c40 3 (eInt .i64).size v38.length cs41)]) w ∧ r 0 = (vs p0) ∧ r 2 = (.pointer (some ⟨g1, 0, none⟩)) ∧ r 5 = (.slice A39 v38.length c40) ∧ r 45 = (.int .i64 ((List.replicate (Int.toNat (i64w ((i64w (Int.tdiv (p0.length : Int) 4)) - 1))) (0 : Int)).length : Int)) ∧ r 46 = (.int .i64 (i35 : Int)) ∧ Rows (eInt .i64) H33 cs41 v38) (Int.toNat ((List.replicate (Int.toNat (i64w ((i64w (Int.tdiv (p0.length : Int) 4)) - 1))) (0 : Int)).length : Int)) ?_ ?_ ?_
     ·exact ⟨0, _, (List.replicate (Int.toNat (i64w ((i64w (Int.tdiv (p0.length : Int) 4)) - 1))) (0 : Int)), (some ⟨g28, 0, none⟩), (Int.toNat (i64w ((i64w (Int.tdiv (p0.length : Int) 4)) - 1))), cs29, _, rfl, cnt_init _, hm1, Le.refl _, hO, rfl, rfl, rfl, rfl, rfl, hr31⟩
     ·
      intro k r w
      rintro ⟨i35, rest36, v38, A39, c40, cs41, H33, rfl, hd43, hm1, le34, hO, f0_1, f2_1, f5_1, f45_1, f46_1, h42⟩
      cases rest36 with
      | zero =>
       rw [wire_Take_l1] at hm1
       have hlt := cnt_zero hd43
       refine seq (region (val (x_lss f46_1 f45_1) ?_))
       refine nil (seq (W.cond_f (kb rfl hlt) ?_))
       refine W.exit _ rfl ?_
       obtain rfl := sj hm1
       exact ⟨v38, A39, c40, cs41, i35, H33, rfl, le34, hO.pick _ ⟨rfl, rfl, trivial⟩, f2_1, f5_1, h42⟩
      | succ rest36 =>
       rw [wire_Take_l1] at hm1
       have hlt := cnt_lt hd43
       have hnx := cnt_next hd43
       have hinc := inc_lim hlt hlim1
       refine seq (region (val (x_lss f46_1 f45_1) ?_))
       refine nil (seq (W.cond_t (kb rfl hlt) ?_))
       refine skip (seq (W.block ?_))
       refine seq (region (val (x_move (.int .i64 (i35 : Int)) f46_1) ?_))
       refine val (x_assign (.int .i64 (i35 : Int)) rfl) ?_
       refine nil (region (val (x_move (.slice A39 v38.length c40) f5_1) ?_))
       refine val (x_move (.int .i64 (i35 : Int)) rfl) ?_
       refine val (x_move (vs p0) f0_1) ?_
       refine val (x_move (.int .i64 (i35 : Int)) rfl) ?_
       obtain ⟨t44, ht45, hm1⟩ := bindSome hm1
       refine o_call hO go92 (wire_number_ok hO.sub  ht45) rfl ?_
       rintro _ H46 w47 le48 rfl hO
       obtain ⟨hin49, hm1⟩ := chk hm1
       obtain ⟨hc50, g51, o52, hA53⟩ := hO.rowA (k := 1) rfl hin49
       refine val (x_ia (sA rfl hA53) rfl sle61 hin49) ?_
       refine o_stRow (en := (eInt .i64)) (z := t44) (k := 1) (.int .i64 t44) hO rfl (h42.up le48) hc50 hA53 hin49 rfl rfl rfl rfl siz3 ?_
       intro cs54 w55 hr56 hO
       refine nil (region (val (x_add f46_1 rfl) ?_))
       refine val (x_move (.int .i64 (i64w ((i35 : Int) + 1))) rfl) ?_
       refine nil ?_
       exact ⟨_, Nat.lt_succ_self _, i35 + 1, rest36, (List.set v38 (Int.toNat (i35 : Int)) t44), A39, c40, cs54, H46, rfl, hnx, hm1, (le34.trans le48), hO.pick _ ⟨rfl, rfl, trivial⟩, f0_1, f2_1, (setlen f5_1), f45_1, (incv hinc), hr56⟩
     ·intro r w
      rintro ⟨v59, A60, c61, cs63, i64, H57, rfl, le58, hO, f65, f66, h62⟩
      refine seq ?_
      obtain ⟨H67, le68, h69, hO⟩ := hO.freezeRow (en := (eInt .i64)) 1 rfl rfl rfl h62
      have hO := hO.pick [(0, .blk g1 [(.int .i64 0), (.int .i64 0), (.int .i64 0), (.int .i64 0), (.int .i64 0), (.int .i64 0), (.int .i64 0), (.int .i64 0), (.int .i64 0), (.int .i64 0), (.slice none 0 0)] 109)] ⟨rfl, trivial⟩
      refine W.draw (SD w0 H0 [] H67 [(0, .blk g1 [(.int .i64 0), (.int .i64 0), (.int .i64 0), (.int .i64 0), (.int .i64 0), (.int .i64 0), (.int .i64 0), (.int .i64 0), (.int .i64 0), (.int .i64 0), (.slice none 0 0)] 109)]) (fun i => ([32] : List Nat).contains i) mixed 33 rfl _ rfl ?_
      intro w70 hh1 hh2 hh3 hh4; have hO := hO.same hh1 hh2 hh3 hh4; clear hh1 hh2 hh3 hh4
      have hS : SD w0 H0 [] H67 [(0, .blk g1 [(.int .i64 0), (.int .i64 0), (.int .i64 0), (.int .i64 0), (.int .i64 0), (.int .i64 0), (.int .i64 0), (.int .i64 0), (.int .i64 0), (.int .i64 0), (.slice none 0 0)] 109)] w70 := ⟨_, _, Le.refl _, hO, ⟨rfl, trivial⟩⟩
      refine take (i := 0) rfl (by kernel_rfl) (fun w hS => x_move (.slice A60 v59.length c61) f66) hS ?_
      obtain ⟨hin74, hm0⟩ := chk hm0
      obtain ⟨a71, h72, hA73⟩ := RS.at_ h69 hin74
      refine take (i := 1) rfl (by kernel_rfl) (fun w hS => x_ia (sA rfl hA73) rfl sle61 hin74) hS ?_
      refine take (i := 2) rfl (by kernel_rfl) (fun w hS => x_ldc rfl (h72.int _ hS.sub) one3) hS ?_
      refine take (i := 3) rfl (by kernel_rfl) (fun w hS => x_move (.slice A60 v59.length c61) f66) hS ?_
      obtain ⟨hin78, hm0⟩ := chk hm0
      obtain ⟨a75, h76, hA77⟩ := RS.at_ h69 hin78
      refine take (i := 4) rfl (by kernel_rfl) (fun w hS => x_ia (sA rfl hA77) rfl sle61 hin78) hS ?_
      refine take (i := 5) rfl (by kernel_rfl) (fun w hS => x_ldc rfl (h76.int _ hS.sub) one3) hS ?_
      refine take (i := 6) rfl (by kernel_rfl) (fun w hS => x_move (.slice A60 v59.length c61) f66) hS ?_
      obtain ⟨hin82, hm0⟩ := chk hm0
      obtain ⟨a79, h80, hA81⟩ := RS.at_ h69 hin82
      refine take (i := 7) rfl (by kernel_rfl) (fun w hS => x_ia (sA rfl hA81) rfl sle61 hin82) hS ?_
      refine take (i := 8) rfl (by kernel_rfl) (fun w hS => x_ldc rfl (h80.int _ hS.sub) one3) hS ?_
      refine take (i := 9) rfl (by kernel_rfl) (fun w hS => x_move (.slice A60 v59.length c61) f66) hS ?_
      obtain ⟨hin86, hm0⟩ := chk hm0
      obtain ⟨a83, h84, hA85⟩ := RS.at_ h69 hin86
      refine take (i := 10) rfl (by kernel_rfl) (fun w hS => x_ia (sA rfl hA85) rfl sle61 hin86) hS ?_
      refine take (i := 11) rfl (by kernel_rfl) (fun w hS => x_ldc rfl (h84.int _ hS.sub) one3) hS ?_
      refine take (i := 12) rfl (by kernel_rfl) (fun w hS => x_move (.slice A60 v59.length c61) f66) hS ?_
      obtain ⟨hin90, hm0⟩ := chk hm0
      obtain ⟨a87, h88, hA89⟩ := RS.at_ h69 hin90
      refine take (i := 13) rfl (by kernel_rfl) (fun w hS => x_ia (sA rfl hA89) rfl sle61 hin90) hS ?_
      refine take (i := 14) rfl (by kernel_rfl) (fun w hS => x_ldc rfl (h88.int _ hS.sub) one3) hS ?_
      refine take (i := 15) rfl (by kernel_rfl) (fun w hS => x_move (.slice A60 v59.length c61) f66) hS ?_
      obtain ⟨hin94, hm0⟩ := chk hm0
      obtain ⟨a91, h92, hA93⟩ := RS.at_ h69 hin94
      refine take (i := 16) rfl (by kernel_rfl) (fun w hS => x_ia (sA rfl hA93) rfl sle61 hin94) hS ?_
      refine take (i := 17) rfl (by kernel_rfl) (fun w hS => x_ldc rfl (h92.int _ hS.sub) one3) hS ?_
      refine take (i := 18) rfl (by kernel_rfl) (fun w hS => x_move (.slice A60 v59.length c61) f66) hS ?_
      obtain ⟨hin98, hm0⟩ := chk hm0
      obtain ⟨a95, h96, hA97⟩ := RS.at_ h69 hin98
      refine take (i := 19) rfl (by kernel_rfl) (fun w hS => x_ia (sA rfl hA97) rfl sle61 hin98) hS ?_
      refine take (i := 20) rfl (by kernel_rfl) (fun w hS => x_ldc rfl (h96.int _ hS.sub) one3) hS ?_
      refine take (i := 21) rfl (by kernel_rfl) (fun w hS => x_move (.slice A60 v59.length c61) f66) hS ?_
      obtain ⟨hin102, hm0⟩ := chk hm0
      obtain ⟨a99, h100, hA101⟩ := RS.at_ h69 hin102
      refine take (i := 22) rfl (by kernel_rfl) (fun w hS => x_ia (sA rfl hA101) rfl sle61 hin102) hS ?_
      refine take (i := 23) rfl (by kernel_rfl) (fun w hS => x_ldc rfl (h100.int _ hS.sub) one3) hS ?_
      refine take (i := 24) rfl (by kernel_rfl) (fun w hS => x_move (.slice A60 v59.length c61) f66) hS ?_
      obtain ⟨hin106, hm0⟩ := chk hm0
      obtain ⟨a103, h104, hA105⟩ := RS.at_ h69 hin106
      refine take (i := 25) rfl (by kernel_rfl) (fun w hS => x_ia (sA rfl hA105) rfl sle61 hin106) hS ?_
      refine take (i := 26) rfl (by kernel_rfl) (fun w hS => x_ldc rfl (h104.int _ hS.sub) one3) hS ?_
      refine take (i := 27) rfl (by kernel_rfl) (fun w hS => x_move (.slice A60 v59.length c61) f66) hS ?_
      obtain ⟨hin110, hm0⟩ := chk hm0
      obtain ⟨a107, h108, hA109⟩ := RS.at_ h69 hin110
      refine take (i := 28) rfl (by kernel_rfl) (fun w hS => x_ia (sA rfl hA109) rfl sle61 hin110) hS ?_
      refine take (i := 29) rfl (by kernel_rfl) (fun w hS => x_ldc rfl (h108.int _ hS.sub) one3) hS ?_
      refine take (i := 30) rfl (by kernel_rfl) (fun w hS => x_build [(0, (.int .i64 (at0 v59 1))), (1, (.int .i64 (at0 v59 2))), (2, (.int .i64 (at0 v59 3))), (3, (.int .i64 (at0 v59 4))), (4, (.int .i64 (at0 v59 5))), (5, (.int .i64 (at0 v59 6))), (6, (.int .i64 (at0 v59 7))), (7, (.int .i64 (at0 v59 8))), (8, (.int .i64 (at0 v59 9))), (9, (.int .i64 (at0 v59 10)))] [(.int .i64 (at0 v59 1)), (.int .i64 (at0 v59 2)), (.int .i64 (at0 v59 3)), (.int .i64 (at0 v59 4)), (.int .i64 (at0 v59 5)), (.int .i64 (at0 v59 6)), (.int .i64 (at0 v59 7)), (.int .i64 (at0 v59 8)), (.int .i64 (at0 v59 9)), (.int .i64 (at0 v59 10)), (.slice none 0 0)] ⟨rfl, rfl, rfl, rfl, rfl, rfl, rfl, rfl, rfl, rfl, rfl, rfl, rfl, rfl, rfl, rfl, rfl, rfl, rfl, rfl, trivial⟩ (by kernel_rfl)) hS ?_
      refine WA.only (i := 31) (by kernel_rfl) rfl ?_
      refine o_alloc 2 _ [(.int .i64 0), (.int .i64 0), (.int .i64 0), (.int .i64 0), (.int .i64 0), (.int .i64 0), (.int .i64 0), (.int .i64 0), (.int .i64 0), (.int .i64 0), (.slice none 0 0)] zer109 hO rfl ?_
      intro g111 w112 hO
      have hS : SD w0 H0 [] H67 [(0, .blk g1 [(.int .i64 0), (.int .i64 0), (.int .i64 0), (.int .i64 0), (.int .i64 0), (.int .i64 0), (.int .i64 0), (.int .i64 0), (.int .i64 0), (.int .i64 0), (.slice none 0 0)] 109)] _ := ⟨_, _, (Le.refl _), hO, ⟨rfl, trivial⟩⟩
      refine nil ⟨fun _ => hS, ?_⟩
      refine WA.only (i := 32) (by kernel_rfl) rfl ?_
      refine o_sts 2 [(.int .i64 (at0 v59 1)), (.int .i64 (at0 v59 2)), (.int .i64 (at0 v59 3)), (.int .i64 (at0 v59 4)), (.int .i64 (at0 v59 5)), (.int .i64 (at0 v59 6)), (.int .i64 (at0 v59 7)), (.int .i64 (at0 v59 8)), (.int .i64 (at0 v59 9)), (.int .i64 (at0 v59 10)), (.slice none 0 0)] hO rfl rfl rfl siz109 rfl (Nat.le_of_ble_eq_true rfl) (by simp [Value.oneCell', vs]) ?_
      intro w113 hO
      refine nil ⟨fun h => absurd h (by decide), ?_⟩
      refine WA.done (by kernel_rfl) ?_
      refine seq (seq (region (val (x_move (.slice A60 v59.length c61) f66) ?_)))
      obtain ⟨hok114, hm0⟩ := chk hm0
      refine val (x_sll (xs := v59) sle61 rfl h69.1 rfl hok114) ?_
      refine val (x_len rfl underlying61) ?_
      refine val (x_move (.int .i64 0) rfl) ?_
      refine nil ?_
      have hO := hO.nilRowT (α := Int) 3 none 3 (eInt .i64)
      obtain ⟨o115, hm1, hm0⟩ := bindSome hm0
      have hO := hO.pick [(0, .blk g1 [(.int .i64 0), (.int .i64 0), (.int .i64 0), (.int .i64 0), (.int .i64 0), (.int .i64 0), (.int .i64 0), (.int .i64 0), (.int .i64 0), (.int .i64 0), (.slice none 0 0)] 109), (2, .blk g111 [(.int .i64 (at0 v59 1)), (.int .i64 (at0 v59 2)), (.int .i64 (at0 v59 3)), (.int .i64 (at0 v59 4)), (.int .i64 (at0 v59 5)), (.int .i64 (at0 v59 6)), (.int .i64 (at0 v59 7)), (.int .i64 (at0 v59 8)), (.int .i64 (at0 v59 9)), (.int .i64 (at0 v59 10)), (.slice none ([] : List Int).length 0)] 109), (3, .row none 0 3 (eInt .i64).size ([] : List Int).length [])] ⟨rfl, rfl, rfl, trivial⟩
      refine W.blockLoop (fun r w => ∃ (v121 : List Int) (A122 : Option Addr) (c123 : Nat) (cs124 : List Value) (i118 : Nat) (H116 : IHeap), v121 = o115 ∧ Le H67 H116 ∧ St w0 H0 [] H116 (ol [(0, .blk g1 [(.int .i64 0), (.int .i64 0), (.int .i64 0), (.int .i64 0), (.int .i64 0), (.int .i64 0), (.int .i64 0), (.int .i64 0), (.int .i64 0), (.int .i64 0), (.slice none 0 0)] 109), (2, .blk g111 [(.int .i64 (at0 v59 1)), (.int .i64 (at0 v59 2)), (.int .i64 (at0 v59 3)), (.int .i64 (at0 v59 4)), (.int .i64 (at0 v59 5)), (.int .i64 (at0 v59 6)), (.int .i64 (at0 v59 7)), (.int .i64 (at0 v59 8)), (.int .i64 (at0 v59 9)), (.int .i64 (at0 v59 10)), (.slice A122 v121.length c123)] 109), (3, .row A122 c123 3 (eInt .i64).size v121.length cs124)]) w ∧ r 2 = (.pointer (some ⟨g1, 0, none⟩)) ∧ r 5 = (.slice A60 v59.length c61) ∧ r 7 = (.pointer (some ⟨g111, 0, none⟩)) ∧ Rows (eInt .i64) H116 cs124 v121) (fun k r w => ∃ (i118 : Nat) (rest119 : List Int) (v121 : List Int) (A122 : Option Addr) (c123 : Nat) (cs124 : List Value) (H116 : IHeap), k = rest119.length ∧ List.drop i118 (lcut v59 12 (v59.length : Int)) = rest119 ∧ wire_Take_l2 rest119 i118 v121 = some o115 ∧ Le H67 H116 ∧ St w0 H0 [] H116 (ol [(0, .blk g1 [(.int .i64 0), (.int .i64 0), (.int .i64 0), (.int .i64 0), (.int .i64 0), (.int .i64 0), (.int .i64 0), (.int .i64 0), (.int .i64 0), (.int .i64 0), (.slice none 0 0)] 109), (2, .blk g111 [(.int .i64 (at0 v59 1)), (.int .i64 (at0 v59 2)), (.int .i64 (at0 v59 3)), (.int .i64 (at0 v59 4)), (.int .i64 (at0 v59 5)), (.int .i64 (at0 v59 6)), (.int .i64 (at0 v59 7)), (.int .i64 (at0 v59 8)), (.int .i64 (at0 v59 9)), (.int .i64 (at0 v59 10)), (.slice A122 v121.length c123)] 109), (3, .row A122 c123 3 (eInt .i64).size v121.length cs124)]) w ∧ r 2 = (.pointer (some ⟨g1, 0, none⟩)) ∧ r 5 = (.slice A60 v59.length c61) ∧ r 7 = (.pointer (some ⟨g111, 0, none⟩)) ∧ r 88 = (.slice (sufA A60 (12 : Int).toNat (eInt .i64).size c61) (lcut v59 12 (v59.length : Int)).length (c61 - (12 : Int).toNat)) ∧ r 89 = (.int .i64 ((lcut v59 12 (v59.length : Int)).length : Int)) ∧ r 90 = (.int .i64 (i118 : Int)) ∧ Rows (eInt .i64) H116 cs124 v121) (List.length (lcut v59 12 (v59.length : Int))) ?_ ?_ ?_
      ·exact ⟨0, _, ([] : List Int), none, 0, [], _, rfl, rfl, hm1, Le.refl _, hO, f65, f66, rfl, rfl, rfl, rfl, Rows.nil⟩
      ·
       intro k r w
       rintro ⟨i118, rest119, v121, A122, c123, cs124, H116, rfl, hd126, hm1, le117, hO, f2_2, f5_2, f7_2, f88_2, f89_2, f90_2, h125⟩
       cases rest119 with
       | nil =>
        rw [wire_Take_l2] at hm1
        have hlt := drop_nil hd126
        refine seq (region (val (x_lss f90_2 f89_2) ?_))
        refine nil (seq (W.cond_f (kb rfl hlt) ?_))
        refine W.exit _ rfl ?_
        obtain rfl := sj hm1
        exact ⟨v121, A122, c123, cs124, i118, H116, rfl, le117, hO.pick _ ⟨rfl, rfl, rfl, trivial⟩, f2_2, f5_2, f7_2, h125⟩
       | cons x120 rest119 =>
        rw [wire_Take_l2] at hm1
        have hlt := drop_lt hd126
        have hnx := drop_next hd126
        have hinc := inc_len hlt (RS.cut h69 hok114).1 (RS.cut h69 hok114).2.1
        refine seq (region (val (x_lss f90_2 f89_2) ?_))
        refine nil (seq (W.cond_t (kb rfl hlt) ?_))
        refine skip (seq (W.block ?_))
        refine seq (region ?_)
        obtain ⟨a127, h128, hA129, hin⟩ := RS.atR ((RS.cut h69 hok114).up le117) hd126
        refine val (x_ia (sA f88_2 hA129) f90_2 sle61 hin) ?_
        refine val (x_ldc rfl (h128.int _ hO.sub) one3) ?_
        refine val (x_assign (.int .i64 x120) rfl) ?_
        refine nil ?_
        have hO := hO.pick [(0, .blk g1 [(.int .i64 0), (.int .i64 0), (.int .i64 0), (.int .i64 0), (.int .i64 0), (.int .i64 0), (.int .i64 0), (.int .i64 0), (.int .i64 0), (.int .i64 0), (.slice none 0 0)] 109), (2, .blk g111 [(.int .i64 (at0 v59 1)), (.int .i64 (at0 v59 2)), (.int .i64 (at0 v59 3)), (.int .i64 (at0 v59 4)), (.int .i64 (at0 v59 5)), (.int .i64 (at0 v59 6)), (.int .i64 (at0 v59 7)), (.int .i64 (at0 v59 8)), (.int .i64 (at0 v59 9)), (.int .i64 (at0 v59 10)), (.slice A122 v121.length c123)] 109), (3, .row A122 c123 3 (eInt .i64).size v121.length cs124)] ⟨rfl, rfl, rfl, trivial⟩
        refine W.draw (SD w0 H0 [] H116 [(0, .blk g1 [(.int .i64 0), (.int .i64 0), (.int .i64 0), (.int .i64 0), (.int .i64 0), (.int .i64 0), (.int .i64 0), (.int .i64 0), (.int .i64 0), (.int .i64 0), (.slice none 0 0)] 109), (2, .blk g111 [(.int .i64 (at0 v59 1)), (.int .i64 (at0 v59 2)), (.int .i64 (at0 v59 3)), (.int .i64 (at0 v59 4)), (.int .i64 (at0 v59 5)), (.int .i64 (at0 v59 6)), (.int .i64 (at0 v59 7)), (.int .i64 (at0 v59 8)), (.int .i64 (at0 v59 9)), (.int .i64 (at0 v59 10)), (.slice A122 v121.length c123)] 109)]) (fun i => ([7] : List Nat).contains i) mixed 8 rfl _ rfl ?_
        intro w130 hh1 hh2 hh3 hh4; have hO := hO.same hh1 hh2 hh3 hh4; clear hh1 hh2 hh3 hh4
        have hS : SD w0 H0 [] H116 [(0, .blk g1 [(.int .i64 0), (.int .i64 0), (.int .i64 0), (.int .i64 0), (.int .i64 0), (.int .i64 0), (.int .i64 0), (.int .i64 0), (.int .i64 0), (.int .i64 0), (.slice none 0 0)] 109), (2, .blk g111 [(.int .i64 (at0 v59 1)), (.int .i64 (at0 v59 2)), (.int .i64 (at0 v59 3)), (.int .i64 (at0 v59 4)), (.int .i64 (at0 v59 5)), (.int .i64 (at0 v59 6)), (.int .i64 (at0 v59 7)), (.int .i64 (at0 v59 8)), (.int .i64 (at0 v59 9)), (.int .i64 (at0 v59 10)), (.slice A122 v121.length c123)] 109)] w130 := ⟨_, _, Le.refl _, hO, ⟨rfl, rfl, trivial⟩⟩
        refine take (i := 0) rfl (by kernel_rfl) (fun w hS => x_fa f7_2 fo109_10) hS ?_
        refine take (i := 1) rfl (by kernel_rfl) (fun w hS => x_ldD 2 (.slice A122 v121.length c123) hS rfl rfl rfl one61) hS ?_
        refine take (i := 2) rfl (by kernel_rfl) (fun w hS => x_move (.int .i64 x120) rfl) hS ?_
        refine WA.only (i := 3) (by kernel_rfl) rfl ?_
        obtain ⟨t131, ht132, hm1⟩ := bindSome hm1
        refine o_call hO go93 (wire_signed_ok hO.sub  ht132) rfl ?_
        rintro _ H133 w134 le135 rfl hO
        have hS : SD w0 H0 [] H116 [(0, .blk g1 [(.int .i64 0), (.int .i64 0), (.int .i64 0), (.int .i64 0), (.int .i64 0), (.int .i64 0), (.int .i64 0), (.int .i64 0), (.int .i64 0), (.int .i64 0), (.slice none 0 0)] 109), (2, .blk g111 [(.int .i64 (at0 v59 1)), (.int .i64 (at0 v59 2)), (.int .i64 (at0 v59 3)), (.int .i64 (at0 v59 4)), (.int .i64 (at0 v59 5)), (.int .i64 (at0 v59 6)), (.int .i64 (at0 v59 7)), (.int .i64 (at0 v59 8)), (.int .i64 (at0 v59 9)), (.int .i64 (at0 v59 10)), (.slice A122 v121.length c123)] 109)] _ := ⟨_, _, le135, hO, ⟨rfl, rfl, trivial⟩⟩
        refine nil ⟨fun _ => hS, ?_⟩
        refine WA.only (i := 4) (by kernel_rfl) rfl ?_
        refine o_litT (en := (eInt .i64)) 4 [(.int .i64 t131)] ([t131] : List Int) hO sli61 ⟨rfl, trivial⟩ rfl rfl rfl ?_
        intro g136 cs137 w138 hr139 hO
        have hS : SD w0 H0 [] H116 [(0, .blk g1 [(.int .i64 0), (.int .i64 0), (.int .i64 0), (.int .i64 0), (.int .i64 0), (.int .i64 0), (.int .i64 0), (.int .i64 0), (.int .i64 0), (.int .i64 0), (.slice none 0 0)] 109), (2, .blk g111 [(.int .i64 (at0 v59 1)), (.int .i64 (at0 v59 2)), (.int .i64 (at0 v59 3)), (.int .i64 (at0 v59 4)), (.int .i64 (at0 v59 5)), (.int .i64 (at0 v59 6)), (.int .i64 (at0 v59 7)), (.int .i64 (at0 v59 8)), (.int .i64 (at0 v59 9)), (.int .i64 (at0 v59 10)), (.slice A122 v121.length c123)] 109)] _ := ⟨_, _, le135, hO, ⟨rfl, rfl, trivial⟩⟩
        refine nil ⟨fun _ => hS, ?_⟩
        refine WA.only (i := 5) (by kernel_rfl) rfl ?_
        refine o_appT (en := (eInt .i64)) (xs := v121) (ys := ([t131] : List Int)) 3 hO rfl (h125.up le135) rfl rfl (Src.row (k := 4) hO rfl) hr139 sli61 rfl rfl underlying61 hm1 ?_
        intro A140 c141 cs142 w143 hr144 hO hm1
        have hS : SD w0 H0 [] H116 [(0, .blk g1 [(.int .i64 0), (.int .i64 0), (.int .i64 0), (.int .i64 0), (.int .i64 0), (.int .i64 0), (.int .i64 0), (.int .i64 0), (.int .i64 0), (.int .i64 0), (.slice none 0 0)] 109), (2, .blk g111 [(.int .i64 (at0 v59 1)), (.int .i64 (at0 v59 2)), (.int .i64 (at0 v59 3)), (.int .i64 (at0 v59 4)), (.int .i64 (at0 v59 5)), (.int .i64 (at0 v59 6)), (.int .i64 (at0 v59 7)), (.int .i64 (at0 v59 8)), (.int .i64 (at0 v59 9)), (.int .i64 (at0 v59 10)), (.slice A122 v121.length c123)] 109)] _ := ⟨_, _, le135, hO, ⟨rfl, rfl, trivial⟩⟩
        refine nil ⟨fun _ => hS, ?_⟩
        refine take (i := 6) rfl (by kernel_rfl) (fun w hS => x_fa f7_2 fo109_10) hS ?_
        refine WA.only (i := 7) (by kernel_rfl) rfl ?_
        refine o_st 2 (.slice A140 (v121 ++ ([t131] : List Int)).length c141) hO rfl rfl rfl rfl siz61 rfl ?_
        intro w145 hO
        refine nil ⟨fun h => absurd h (by decide), ?_⟩
        refine WA.done (by kernel_rfl) ?_
        refine region (val (x_add f90_2 rfl) ?_)
        refine val (x_move (.int .i64 (i64w ((i118 : Int) + 1))) rfl) ?_
        refine nil ?_
        exact ⟨_, Nat.lt_succ_self _, i118 + 1, rest119, (v121 ++ ([t131] : List Int)), A140, c141, cs142, H133, rfl, hnx, hm1, (le117.trans le135), hO.pick _ ⟨rfl, rfl, rfl, trivial⟩, f2_2, f5_2, f7_2, f88_2, f89_2, (incv hinc), hr144⟩
      ·intro r w
       rintro ⟨v148, A149, c150, cs152, i153, H146, rfl, le147, hO, f154, f155, f156, h151⟩
       refine seq (seq ?_)
       have hO := hO.pick [(0, .blk g1 [(.int .i64 0), (.int .i64 0), (.int .i64 0), (.int .i64 0), (.int .i64 0), (.int .i64 0), (.int .i64 0), (.int .i64 0), (.int .i64 0), (.int .i64 0), (.slice none 0 0)] 109), (2, .blk g111 [(.int .i64 (at0 v59 1)), (.int .i64 (at0 v59 2)), (.int .i64 (at0 v59 3)), (.int .i64 (at0 v59 4)), (.int .i64 (at0 v59 5)), (.int .i64 (at0 v59 6)), (.int .i64 (at0 v59 7)), (.int .i64 (at0 v59 8)), (.int .i64 (at0 v59 9)), (.int .i64 (at0 v59 10)), (.slice A149 v148.length c150)] 109), (3, .row A149 c150 3 (eInt .i64).size v148.length cs152)] ⟨rfl, rfl, rfl, trivial⟩
       refine W.draw (SD w0 H0 [] H146 [(0, .blk g1 [(.int .i64 0), (.int .i64 0), (.int .i64 0), (.int .i64 0), (.int .i64 0), (.int .i64 0), (.int .i64 0), (.int .i64 0), (.int .i64 0), (.int .i64 0), (.slice none 0 0)] 109), (2, .blk g111 [(.int .i64 (at0 v59 1)), (.int .i64 (at0 v59 2)), (.int .i64 (at0 v59 3)), (.int .i64 (at0 v59 4)), (.int .i64 (at0 v59 5)), (.int .i64 (at0 v59 6)), (.int .i64 (at0 v59 7)), (.int .i64 (at0 v59 8)), (.int .i64 (at0 v59 9)), (.int .i64 (at0 v59 10)), (.slice A149 v148.length c150)] 109)]) (fun i => ([] : List Nat).contains i) mixed 12 rfl _ rfl ?_
       intro w157 hh1 hh2 hh3 hh4; have hO := hO.same hh1 hh2 hh3 hh4; clear hh1 hh2 hh3 hh4
       have hS : SD w0 H0 [] H146 [(0, .blk g1 [(.int .i64 0), (.int .i64 0), (.int .i64 0), (.int .i64 0), (.int .i64 0), (.int .i64 0), (.int .i64 0), (.int .i64 0), (.int .i64 0), (.int .i64 0), (.slice none 0 0)] 109), (2, .blk g111 [(.int .i64 (at0 v59 1)), (.int .i64 (at0 v59 2)), (.int .i64 (at0 v59 3)), (.int .i64 (at0 v59 4)), (.int .i64 (at0 v59 5)), (.int .i64 (at0 v59 6)), (.int .i64 (at0 v59 7)), (.int .i64 (at0 v59 8)), (.int .i64 (at0 v59 9)), (.int .i64 (at0 v59 10)), (.slice A149 v148.length c150)] 109)] w157 := ⟨_, _, Le.refl _, hO, ⟨rfl, rfl, trivial⟩⟩
       refine take (i := 0) rfl (by kernel_rfl) (fun w hS => x_move (.slice A60 v59.length c61) f155) hS ?_
       obtain ⟨hin161, hm0⟩ := chk hm0
       obtain ⟨a158, h159, hA160⟩ := RS.at_ (h69.up le147) hin161
       refine take (i := 1) rfl (by kernel_rfl) (fun w hS => x_ia (sA rfl hA160) rfl sle61 hin161) hS ?_
       refine take (i := 2) rfl (by kernel_rfl) (fun w hS => x_ldc rfl (h159.int _ hS.sub) one3) hS ?_
       refine take (i := 3) rfl (by kernel_rfl) (fun w hS => x_fa f156 fo109_10) hS ?_
       refine take (i := 4) rfl (by kernel_rfl) (fun w hS => x_ldD 2 (.slice A149 v148.length c150) hS rfl rfl rfl one61) hS ?_
       refine take (i := 5) rfl (by kernel_rfl) (fun w hS => x_len rfl underlying61) hS ?_
       refine take (i := 6) rfl (by kernel_rfl) (fun w hS => x_neq rfl rfl) hS ?_
       refine take (i := 7) rfl (by kernel_rfl) (fun w hS => x_move (.bool ((at0 v59 11) != (v148.length : Int))) rfl) hS ?_
       refine WA.gtake (i := 8) rfl rfl rfl (by kernel_rfl) (fun hb w hS => x_ldsD 2 [(.int .i64 (at0 v59 1)), (.int .i64 (at0 v59 2)), (.int .i64 (at0 v59 3)), (.int .i64 (at0 v59 4)), (.int .i64 (at0 v59 5)), (.int .i64 (at0 v59 6)), (.int .i64 (at0 v59 7)), (.int .i64 (at0 v59 8)), (.int .i64 (at0 v59 9)), (.int .i64 (at0 v59 10)), (.slice A149 v148.length c150)] hS rfl f156 agg109 rfl rfl) hS ?_
       refine WA.only (i := 9) (by kernel_rfl) rfl ?_
       rcases btest hm0 with ⟨hb162, hm0⟩ | ⟨hb162, hm0⟩
       ·refine no rfl (kb rfl hb162) rfl ?_
        have hS : SD w0 H0 [] H146 [(0, .blk g1 [(.int .i64 0), (.int .i64 0), (.int .i64 0), (.int .i64 0), (.int .i64 0), (.int .i64 0), (.int .i64 0), (.int .i64 0), (.int .i64 0), (.int .i64 0), (.slice none 0 0)] 109), (2, .blk g111 [(.int .i64 (at0 v59 1)), (.int .i64 (at0 v59 2)), (.int .i64 (at0 v59 3)), (.int .i64 (at0 v59 4)), (.int .i64 (at0 v59 5)), (.int .i64 (at0 v59 6)), (.int .i64 (at0 v59 7)), (.int .i64 (at0 v59 8)), (.int .i64 (at0 v59 9)), (.int .i64 (at0 v59 10)), (.slice A149 v148.length c150)] 109)] _ := ⟨_, _, (Le.refl _), hO, ⟨rfl, rfl, trivial⟩⟩
        refine nil ⟨fun _ => hS, ?_⟩
        refine WA.takeN (i := 10) rfl rfl (kb rfl hb162) rfl (by kernel_rfl) hS ?_
        refine take (i := 11) rfl (by kernel_rfl) (fun w hS => x_pick_t (kb rfl hb162) (.bool true) rfl) hS ?_
        refine WA.done (by kernel_rfl) ?_
        refine W.cond_t rfl ?_
        refine seq (region (val (x_build [] [(.int .i64 0), (.int .i64 0), (.int .i64 0), (.int .i64 0), (.int .i64 0), (.int .i64 0), (.int .i64 0), (.int .i64 0), (.int .i64 0), (.int .i64 0), (.slice none 0 0)] trivial (by kernel_rfl)) ?_))
        refine o_sts 0 [(.int .i64 0), (.int .i64 0), (.int .i64 0), (.int .i64 0), (.int .i64 0), (.int .i64 0), (.int .i64 0), (.int .i64 0), (.int .i64 0), (.int .i64 0), (.slice none 0 0)] hO rfl f154 rfl siz109 rfl (Nat.le_of_ble_eq_true rfl) (by simp [Value.oneCell', vs]) ?_
        intro w163 hO
        refine val (x_assign (.int .i64 2) rfl) ?_
        refine nil (W.ret ?_)
        obtain rfl := sj hm0
        exact ⟨[(.agg #[(.int .i64 0), (.int .i64 0), (.int .i64 0), (.int .i64 0), (.int .i64 0), (.int .i64 0), (.int .i64 0), (.int .i64 0), (.int .i64 0), (.int .i64 0), (.slice none 0 0)]), (.int .i64 2)], ⟨⟨_, f154, hO.ldBlk 0 rfl agg109 rfl rfl⟩, rfl, trivial⟩, H146, _, ⟨none, 0, rfl, (RS.nil0 _ _)⟩, hO⟩
       ·refine yes rfl (kb rfl hb162) ?_
        obtain ⟨H164, le165, h166, hO⟩ := hO.freezeRow (en := (eInt .i64)) 3 rfl rfl rfl h151
        obtain ⟨t167, ht168, hm0⟩ := bindSome hm0
        refine o_call hO go94 (wire_Right_ok hO.sub h166 ht168) (args1 (by exact gkF hb162)) ?_
        rintro _ H169 w170 le171 rfl hO
        have hS : SD w0 H0 [] H146 [(0, .blk g1 [(.int .i64 0), (.int .i64 0), (.int .i64 0), (.int .i64 0), (.int .i64 0), (.int .i64 0), (.int .i64 0), (.int .i64 0), (.int .i64 0), (.int .i64 0), (.slice none 0 0)] 109), (2, .blk g111 [(.int .i64 (at0 v59 1)), (.int .i64 (at0 v59 2)), (.int .i64 (at0 v59 3)), (.int .i64 (at0 v59 4)), (.int .i64 (at0 v59 5)), (.int .i64 (at0 v59 6)), (.int .i64 (at0 v59 7)), (.int .i64 (at0 v59 8)), (.int .i64 (at0 v59 9)), (.int .i64 (at0 v59 10)), (.slice A149 v148.length c150)] 109)] _ := ⟨_, _, (le165.trans le171), hO, ⟨rfl, rfl, trivial⟩⟩
        refine nil ⟨fun _ => hS, ?_⟩
        refine WA.takeY (i := 10) rfl rfl (kb rfl hb162) (by kernel_rfl) (fun w hS => x_not rfl) hS ?_
        refine take (i := 11) rfl (by kernel_rfl) (fun w hS => x_pick_f (kb rfl hb162) (.bool (!t167)) rfl) hS ?_
        refine WA.done (by kernel_rfl) ?_
        refine test rfl hm0 ?_ ?_
        ·intro hb172 hm0
         refine seq (region (val (x_build [] [(.int .i64 0), (.int .i64 0), (.int .i64 0), (.int .i64 0), (.int .i64 0), (.int .i64 0), (.int .i64 0), (.int .i64 0), (.int .i64 0), (.int .i64 0), (.slice none 0 0)] trivial (by kernel_rfl)) ?_))
         refine o_sts 0 [(.int .i64 0), (.int .i64 0), (.int .i64 0), (.int .i64 0), (.int .i64 0), (.int .i64 0), (.int .i64 0), (.int .i64 0), (.int .i64 0), (.int .i64 0), (.slice none 0 0)] hO rfl f154 rfl siz109 rfl (Nat.le_of_ble_eq_true rfl) (by simp [Value.oneCell', vs]) ?_
         intro w173 hO
         refine val (x_assign (.int .i64 2) rfl) ?_
         refine nil (W.ret ?_)
         obtain rfl := sj hm0
         exact ⟨[(.agg #[(.int .i64 0), (.int .i64 0), (.int .i64 0), (.int .i64 0), (.int .i64 0), (.int .i64 0), (.int .i64 0), (.int .i64 0), (.int .i64 0), (.int .i64 0), (.slice none 0 0)]), (.int .i64 2)], ⟨⟨_, f154, hO.ldBlk 0 rfl agg109 rfl rfl⟩, rfl, trivial⟩, H169, _, ⟨none, 0, rfl, (RS.nil0 _ _)⟩, hO⟩
        ·intro hb172 hm0
         refine skip (seq (region (val (x_lds 2 [(.int .i64 (at0 v59 1)), (.int .i64 (at0 v59 2)), (.int .i64 (at0 v59 3)), (.int .i64 (at0 v59 4)), (.int .i64 (at0 v59 5)), (.int .i64 (at0 v59 6)), (.int .i64 (at0 v59 7)), (.int .i64 (at0 v59 8)), (.int .i64 (at0 v59 9)), (.int .i64 (at0 v59 10)), (.slice A149 v148.length c150)] hO rfl f156 agg109 rfl rfl) ?_)))
         refine o_sts 0 [(.int .i64 (at0 v59 1)), (.int .i64 (at0 v59 2)), (.int .i64 (at0 v59 3)), (.int .i64 (at0 v59 4)), (.int .i64 (at0 v59 5)), (.int .i64 (at0 v59 6)), (.int .i64 (at0 v59 7)), (.int .i64 (at0 v59 8)), (.int .i64 (at0 v59 9)), (.int .i64 (at0 v59 10)), (.slice A149 v148.length c150)] hO rfl f154 rfl siz109 rfl (Nat.le_of_ble_eq_true rfl) (by simp [Value.oneCell', vs]) ?_
         intro w174 hO
         refine val (x_assign (.int .i64 0) rfl) ?_
         refine nil (W.ret ?_)
         obtain rfl := sj hm0
         exact ⟨[(.agg #[(.int .i64 (at0 v59 1)), (.int .i64 (at0 v59 2)), (.int .i64 (at0 v59 3)), (.int .i64 (at0 v59 4)), (.int .i64 (at0 v59 5)), (.int .i64 (at0 v59 6)), (.int .i64 (at0 v59 7)), (.int .i64 (at0 v59 8)), (.int .i64 (at0 v59 9)), (.int .i64 (at0 v59 10)), (.slice A149 v148.length c150)]), (.int .i64 0)], ⟨⟨_, f154, hO.ldBlk 0 rfl agg109 rfl rfl⟩, rfl, trivial⟩, H169, _, ⟨A149, c150, rfl, (h166.up le171)⟩, hO⟩
end Go.Sw

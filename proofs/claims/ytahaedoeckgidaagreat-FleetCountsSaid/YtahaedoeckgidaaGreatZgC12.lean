/- The calls compute the mirrors. -/
import Derived.Test.YtahaedoeckgidaaGreatZgF
import Derived.Test.YtahaedoeckgidaaGreatZgC4
import Derived.Test.YtahaedoeckgidaaGreatZgC8
import Derived.Test.YtahaedoeckgidaaGreatZgC11
set_option linter.unusedVariables false
set_option linter.unusedSimpArgs false
set_option maxRecDepth 100000
namespace Go.Sw
open WL (val nil gval yes no)
open W (region test seq skip)
open WA (take)
open Go.Proofs.Tryz
open Go.Proofs
theorem fleet_Fleet_Bag_ok {w0 : World} {H0 : IHeap} {p0 : FleetFleet}  {g1_ : Nat} {cs2_ : List Value} {A4_ : Option Addr} {c5_ : Nat} {cs6_ : List Value} {A8_ : Option Addr} {c9_ : Nat} {cs10_ : List Value} {M : List Nat} (hO : St w0 H0 M H0 (ol [(0, .blk g1_ cs2_ 93), (1, .row A4_ c5_ 61 (eSl (eInt .i64)).size p0.answers.length cs6_), (2, .row A8_ c9_ 4 eBool.size p0.answered.length cs10_)]) w0) (h3_ : Enc.rep (eFleetFleet (.slice A4_ p0.answers.length c5_) (.slice A8_ p0.answered.length c9_)) H0 cs2_ p0) (h7_ : Rows (eSl (eInt .i64)) H0 cs6_ p0.answers) (h11_ : Rows eBool H0 cs10_ p0.answered) {res : FleetFleet × (List Str)} (hm0 : fleet_Fleet_Bag p0 = some res) :
  OkM prog 28 [(.pointer (some ⟨g1_, 0, none⟩))].toArray w0 H0 M (fun H' O' v => ∃ (cs1 : List Value) (A1_0 : Option Addr) (c1_0 : Nat) (cs1_0 : List Value) (A1_1 : Option Addr) (c1_1 : Nat) (cs1_1 : List Value) (A2 : Option Addr) (c2 : Nat), v = (.slice A2 res.2.length c2) ∧ Enc.rep (eFleetFleet (.slice A1_0 res.1.answers.length c1_0) (.slice A1_1 res.1.answered.length c1_1)) H' cs1 res.1 ∧ Rows (eSl (eInt .i64)) H' cs1_0 res.1.answers ∧ Rows eBool H' cs1_1 res.1.answered ∧ RS eStr H' A2 c2 res.2 ∧ O' 0 = some (.blk g1_ cs1 93) ∧ O' 1 = some (.row A1_0 c1_0 61 (eSl (eInt .i64)).size res.1.answers.length cs1_0) ∧ O' 2 = some (.row A1_1 c1_1 4 eBool.size res.1.answered.length cs1_1)) := by
 unfold fleet_Fleet_Bag at hm0
 refine (okM_of_W Tryz.func28 rfl Tryz.ntmps28 (rs := [.tmp 2]) rfl rfl ?_)
 refine seq (region (val (x_assign (.slice none 0 0) rfl) ?_))
 refine nil (seq (region (val (x_move (.pointer (some ⟨g1_, 0, none⟩)) rfl) ?_)))
 refine val (x_nilCheck rfl) ?_
 refine val (x_fa rfl fo93_3) ?_
 obtain ⟨cs1, hr2, hc3⟩ := lFleetFleet_bag.part _ _ _ h3_
 obtain ⟨A4, c5, rfl, h6⟩ := hr2
 refine val (x_ld 0 (.slice A4 p0.bag.length c5) hO rfl rfl (hc3 0 _ rfl) one55) ?_
 obtain ⟨t7, ht8, hm0⟩ := bindSome hm0
 refine o_callO hO go71 (slices_Clone_string_ok hO.sub h6 ht8) rfl ?_
 rintro _ H9 O17 w10 le11 ⟨A12, c13, cs14, rfl, hr15, hk16⟩ hO'
 have hO := hO.callRow hO' 3 0 _ hk16; clear hO'
 refine val (x_assign (.slice A12 t7.length c13) rfl) ?_
 refine nil (W.ret ?_)
 obtain ⟨H18, le19, h20, hO⟩ := hO.freezeRow (en := eStr) 3 rfl rfl rfl hr15
 obtain rfl := sj hm0
 exact ⟨[(.slice A12 t7.length c13)], ⟨rfl, trivial⟩, H18, _, ⟨cs2_, A4_, c5_, cs6_, A8_, c9_, cs10_, A12, c13, rfl, (Enc.mono _ (le11.trans le19) h3_), (h7_.up (le11.trans le19)), (h11_.up (le11.trans le19)), h20, rfl, rfl, rfl⟩, hO.relabel [(0, .blk g1_ cs2_ 93), (1, .row A4_ c5_ 61 (eSl (eInt .i64)).size p0.answers.length cs6_), (2, .row A8_ c9_ 4 eBool.size p0.answered.length cs10_)] ⟨rfl, rfl, rfl, trivial⟩ (names_nd (ns := [0, 1, 2]) rfl (by decide))⟩
theorem fleet_Fleet_Drop_ok {w0 : World} {H0 : IHeap} {p0 : FleetFleet} {p1 : Int}  {g1_ : Nat} {cs2_ : List Value} {A4_ : Option Addr} {c5_ : Nat} {cs6_ : List Value} {A8_ : Option Addr} {c9_ : Nat} {cs10_ : List Value} {M : List Nat} (hO : St w0 H0 M H0 (ol [(0, .blk g1_ cs2_ 93), (1, .row A4_ c5_ 61 (eSl (eInt .i64)).size p0.answers.length cs6_), (2, .row A8_ c9_ 4 eBool.size p0.answered.length cs10_)]) w0) (h3_ : Enc.rep (eFleetFleet (.slice A4_ p0.answers.length c5_) (.slice A8_ p0.answered.length c9_)) H0 cs2_ p0) (h7_ : Rows (eSl (eInt .i64)) H0 cs6_ p0.answers) (h11_ : Rows eBool H0 cs10_ p0.answered) {res : FleetFleet × Int} (hm0 : fleet_Fleet_Drop p0 p1 = some res) :
  OkM prog 33 [(.pointer (some ⟨g1_, 0, none⟩)), (.int .i64 p1)].toArray w0 H0 M (fun H' O' v => ∃ (cs1 : List Value) (A1_0 : Option Addr) (c1_0 : Nat) (cs1_0 : List Value) (A1_1 : Option Addr) (c1_1 : Nat) (cs1_1 : List Value), v = (.int .i64 res.2) ∧ Enc.rep (eFleetFleet (.slice A1_0 res.1.answers.length c1_0) (.slice A1_1 res.1.answered.length c1_1)) H' cs1 res.1 ∧ Rows (eSl (eInt .i64)) H' cs1_0 res.1.answers ∧ Rows eBool H' cs1_1 res.1.answered ∧ O' 0 = some (.blk g1_ cs1 93) ∧ O' 1 = some (.row A1_0 c1_0 61 (eSl (eInt .i64)).size res.1.answers.length cs1_0) ∧ O' 2 = some (.row A1_1 c1_1 4 eBool.size res.1.answered.length cs1_1)) := by
 unfold fleet_Fleet_Drop at hm0
 refine (okM_of_W Tryz.func33 rfl Tryz.ntmps33 (rs := [.tmp 4]) rfl rfl ?_)
 refine seq (region (val (x_assign (.int .i64 0) rfl) ?_))
 refine nil (seq (region (val (x_move (.pointer (some ⟨g1_, 0, none⟩)) rfl) ?_)))
 refine val (x_nilCheck rfl) ?_
 refine val (x_fa rfl fo93_3) ?_
 obtain ⟨cs1, hr2, hc3⟩ := lFleetFleet_bag.part _ _ _ h3_
 obtain ⟨A4, c5, rfl, h6⟩ := hr2
 refine val (x_ld 0 (.slice A4 p0.bag.length c5) hO rfl rfl (hc3 0 _ rfl) one55) ?_
 refine val (x_move (.int .i64 p1) rfl) ?_
 obtain ⟨t7, ht8, hm0⟩ := bindSome hm0
 refine o_call hO go47 (bag_Take_ok hO.sub h6 ht8) rfl ?_
 rintro _ H9 w10 le11 ⟨A12, c13, rfl, h14⟩ hO
 refine val (x_move (.tuple #[(vs t7.1), (.slice A12 t7.2.1.length c13), (.bool t7.2.2)]) rfl) ?_
 refine val (x_extract (vs t7.1) rfl rfl) ?_
 refine val (x_extract (.slice A12 t7.2.1.length c13) rfl rfl) ?_
 refine val (x_extract (.bool t7.2.2) rfl rfl) ?_
 refine val (x_assign (vs t7.1) rfl) ?_
 refine val (x_assign (.slice A12 t7.2.1.length c13) rfl) ?_
 refine val (x_assign (.bool t7.2.2) rfl) ?_
 refine nil (seq (region (val (x_move (.pointer (some ⟨g1_, 0, none⟩)) rfl) ?_)))
 refine val (x_move (.slice A12 t7.2.1.length c13) rfl) ?_
 refine val (x_nilCheck rfl) ?_
 refine val (x_fa rfl fo93_3) ?_
 refine o_stP 0 (.slice A12 t7.2.1.length c13) hO rfl (Enc.mono _ le11 h3_) lFleetFleet_bag rfl rfl rfl ⟨A12, c13, rfl, h14⟩ siz55 ?_
 intro cs15 w16 (hr17 : Enc.rep (eFleetFleet (.slice A4_ p0.answers.length c5_) (.slice A8_ p0.answered.length c9_)) H9 cs15 ({ p0 with bag := t7.2.1 } : FleetFleet)) hO
 refine nil (seq (seq (region (val (x_move (.bool t7.2.2) rfl) ?_))))
 refine val (x_not rfl) ?_
 refine nil (test rfl hm0 ?_ ?_)
 ·intro hb18 hm0
  refine seq (region (val (x_assign (.int .i64 4) rfl) ?_))
  refine nil (W.ret ?_)
  obtain rfl := sj hm0
  exact ⟨[(.int .i64 4)], ⟨rfl, trivial⟩, H9, _, ⟨cs15, A4_, c5_, cs6_, A8_, c9_, cs10_, rfl, hr17, (h7_.up le11), (h11_.up le11), rfl, rfl, rfl⟩, hO.relabel [(0, .blk g1_ cs15 93), (1, .row A4_ c5_ 61 (eSl (eInt .i64)).size p0.answers.length cs6_), (2, .row A8_ c9_ 4 eBool.size p0.answered.length cs10_)] ⟨rfl, rfl, rfl, trivial⟩ (names_nd (ns := [0, 1, 2]) rfl (by decide))⟩
 ·intro hb18 hm0
  refine skip (seq (region (val (x_assign (.int .i64 0) rfl) ?_)))
  refine nil (W.ret ?_)
  obtain rfl := sj hm0
  exact ⟨[(.int .i64 0)], ⟨rfl, trivial⟩, H9, _, ⟨cs15, A4_, c5_, cs6_, A8_, c9_, cs10_, rfl, hr17, (h7_.up le11), (h11_.up le11), rfl, rfl, rfl⟩, hO.relabel [(0, .blk g1_ cs15 93), (1, .row A4_ c5_ 61 (eSl (eInt .i64)).size p0.answers.length cs6_), (2, .row A8_ c9_ 4 eBool.size p0.answered.length cs10_)] ⟨rfl, rfl, rfl, trivial⟩ (names_nd (ns := [0, 1, 2]) rfl (by decide))⟩
theorem switchboardlaw19_awake_ok {w0 : World} {H0 : IHeap} (hS : Sub H0 w0)    {res : Bool} (hm0 : switchboardlaw19_awake  = some res) :
  Ok prog 10 [].toArray w0 H0 (fun H' v => v = (.bool res)) := by
 unfold switchboardlaw19_awake at hm0
 refine ok_of_W Tryz.func10 rfl Tryz.ntmps10 (ts := [0]) rfl rfl rfl ?_
 have hO := St.start hS
 refine seq (region (val (x_assign (.bool false) rfl) ?_))
 refine nil (seq (region (o_litT (en := (eInt .i64)) 0 [(.int .i64 65536)] ([65536] : List Int) hO sli61 ⟨rfl, trivial⟩ rfl rfl rfl ?_)))
 intro g1 cs2 w3 hr4 hO
 obtain ⟨H5, le6, h7, hO⟩ := hO.freezeRow (en := (eInt .i64)) 0 rfl rfl rfl hr4
 refine o_litT (en := (eSl (eInt .i64))) 1 [(.slice (some ⟨g1, 0, none⟩) ([65536] : List Int).length ([65536] : List Int).length)] ([([65536] : List Int)] : List (List Int)) hO sli25 ⟨⟨(some ⟨g1, 0, none⟩), ([65536] : List Int).length, rfl, h7⟩, trivial⟩ rfl rfl rfl ?_
 intro g8 cs9 w10 hr11 hO
 refine val (x_assign (.slice (some ⟨g8, 0, none⟩) ([([65536] : List Int)] : List (List Int)).length ([([65536] : List Int)] : List (List Int)).length) rfl) ?_
 refine nil (seq (region (val (x_move (.slice (some ⟨g8, 0, none⟩) ([([65536] : List Int)] : List (List Int)).length ([([65536] : List Int)] : List (List Int)).length) rfl) ?_)))
 refine val (x_move (.slice (some ⟨g8, 0, none⟩) ([([65536] : List Int)] : List (List Int)).length ([([65536] : List Int)] : List (List Int)).length) rfl) ?_
 refine val (x_move (.slice (some ⟨g8, 0, none⟩) ([([65536] : List Int)] : List (List Int)).length ([([65536] : List Int)] : List (List Int)).length) rfl) ?_
 refine val (x_build [(0, (.slice (some ⟨g8, 0, none⟩) ([([65536] : List Int)] : List (List Int)).length ([([65536] : List Int)] : List (List Int)).length)), (1, (.slice (some ⟨g8, 0, none⟩) ([([65536] : List Int)] : List (List Int)).length ([([65536] : List Int)] : List (List Int)).length))] [(.slice (some ⟨g8, 0, none⟩) ([([65536] : List Int)] : List (List Int)).length ([([65536] : List Int)] : List (List Int)).length), (.slice (some ⟨g8, 0, none⟩) ([([65536] : List Int)] : List (List Int)).length ([([65536] : List Int)] : List (List Int)).length)] ⟨rfl, rfl, rfl, rfl, trivial⟩ (by kernel_rfl)) ?_
 obtain ⟨H12, le13, h14, hO⟩ := hO.freezeRow (en := (eSl (eInt .i64))) 1 rfl rfl rfl hr11
 refine o_litT (en := eApiExpert) 2 [(.agg #[(.slice (some ⟨g8, 0, none⟩) ([([65536] : List Int)] : List (List Int)).length ([([65536] : List Int)] : List (List Int)).length), (.slice (some ⟨g8, 0, none⟩) ([([65536] : List Int)] : List (List Int)).length ([([65536] : List Int)] : List (List Int)).length)])] ([(⟨([([65536] : List Int)] : List (List Int)), ([([65536] : List Int)] : List (List Int))⟩ : ApiExpert)] : List ApiExpert) hO sli39 ⟨⟨(some ⟨g8, 0, none⟩), ([([65536] : List Int)] : List (List Int)).length, (some ⟨g8, 0, none⟩), ([([65536] : List Int)] : List (List Int)).length, rfl, h14, h14⟩, trivial⟩ rfl rfl rfl ?_
 intro g15 cs16 w17 hr18 hO
 refine val (x_build [(0, (.slice (some ⟨g8, 0, none⟩) ([([65536] : List Int)] : List (List Int)).length ([([65536] : List Int)] : List (List Int)).length)), (1, (.slice (some ⟨g15, 0, none⟩) ([(⟨([([65536] : List Int)] : List (List Int)), ([([65536] : List Int)] : List (List Int))⟩ : ApiExpert)] : List ApiExpert).length ([(⟨([([65536] : List Int)] : List (List Int)), ([([65536] : List Int)] : List (List Int))⟩ : ApiExpert)] : List ApiExpert).length)), (2, (.int .i64 1))] [(.slice (some ⟨g8, 0, none⟩) ([([65536] : List Int)] : List (List Int)).length ([([65536] : List Int)] : List (List Int)).length), (.slice (some ⟨g15, 0, none⟩) ([(⟨([([65536] : List Int)] : List (List Int)), ([([65536] : List Int)] : List (List Int))⟩ : ApiExpert)] : List ApiExpert).length ([(⟨([([65536] : List Int)] : List (List Int)), ([([65536] : List Int)] : List (List Int))⟩ : ApiExpert)] : List ApiExpert).length), (.int .i64 1)] ⟨rfl, rfl, rfl, rfl, rfl, rfl, trivial⟩ (by kernel_rfl)) ?_
 obtain ⟨H19, le20, h21, hO⟩ := hO.freezeRow (en := eApiExpert) 2 rfl rfl rfl hr18
 refine o_litT (en := eApiLayer) 3 [(.agg #[(.slice (some ⟨g8, 0, none⟩) ([([65536] : List Int)] : List (List Int)).length ([([65536] : List Int)] : List (List Int)).length), (.slice (some ⟨g15, 0, none⟩) ([(⟨([([65536] : List Int)] : List (List Int)), ([([65536] : List Int)] : List (List Int))⟩ : ApiExpert)] : List ApiExpert).length ([(⟨([([65536] : List Int)] : List (List Int)), ([([65536] : List Int)] : List (List Int))⟩ : ApiExpert)] : List ApiExpert).length), (.int .i64 1)])] ([(⟨([([65536] : List Int)] : List (List Int)), ([(⟨([([65536] : List Int)] : List (List Int)), ([([65536] : List Int)] : List (List Int))⟩ : ApiExpert)] : List ApiExpert), 1⟩ : ApiLayer)] : List ApiLayer) hO sli22 ⟨⟨(some ⟨g8, 0, none⟩), ([([65536] : List Int)] : List (List Int)).length, (some ⟨g15, 0, none⟩), ([(⟨([([65536] : List Int)] : List (List Int)), ([([65536] : List Int)] : List (List Int))⟩ : ApiExpert)] : List ApiExpert).length, rfl, (h14.up le20), h21⟩, trivial⟩ rfl rfl rfl ?_
 intro g22 cs23 w24 hr25 hO
 refine val (x_build [(0, (.int .i64 1)), (1, (.slice (some ⟨g22, 0, none⟩) ([(⟨([([65536] : List Int)] : List (List Int)), ([(⟨([([65536] : List Int)] : List (List Int)), ([([65536] : List Int)] : List (List Int))⟩ : ApiExpert)] : List ApiExpert), 1⟩ : ApiLayer)] : List ApiLayer).length ([(⟨([([65536] : List Int)] : List (List Int)), ([(⟨([([65536] : List Int)] : List (List Int)), ([([65536] : List Int)] : List (List Int))⟩ : ApiExpert)] : List ApiExpert), 1⟩ : ApiLayer)] : List ApiLayer).length))] [(.int .i64 1), (.slice (some ⟨g22, 0, none⟩) ([(⟨([([65536] : List Int)] : List (List Int)), ([(⟨([([65536] : List Int)] : List (List Int)), ([([65536] : List Int)] : List (List Int))⟩ : ApiExpert)] : List ApiExpert), 1⟩ : ApiLayer)] : List ApiLayer).length ([(⟨([([65536] : List Int)] : List (List Int)), ([(⟨([([65536] : List Int)] : List (List Int)), ([([65536] : List Int)] : List (List Int))⟩ : ApiExpert)] : List ApiExpert), 1⟩ : ApiLayer)] : List ApiLayer).length)] ⟨rfl, rfl, rfl, rfl, trivial⟩ (by kernel_rfl)) ?_
 refine o_alloc 4 _ [(.int .i64 0), (.slice none 0 0)] zer24 hO rfl ?_
 intro g26 w27 hO
 refine o_sts 4 [(.int .i64 1), (.slice (some ⟨g22, 0, none⟩) ([(⟨([([65536] : List Int)] : List (List Int)), ([(⟨([([65536] : List Int)] : List (List Int)), ([([65536] : List Int)] : List (List Int))⟩ : ApiExpert)] : List ApiExpert), 1⟩ : ApiLayer)] : List ApiLayer).length ([(⟨([([65536] : List Int)] : List (List Int)), ([(⟨([([65536] : List Int)] : List (List Int)), ([([65536] : List Int)] : List (List Int))⟩ : ApiExpert)] : List ApiExpert), 1⟩ : ApiLayer)] : List ApiLayer).length)] hO rfl rfl rfl siz24 rfl (Nat.le_of_ble_eq_true rfl) (by simp [Value.oneCell', vs]) ?_
 intro w28 hO
 refine nil (seq (region (val (x_lds 4 [(.int .i64 1), (.slice (some ⟨g22, 0, none⟩) ([(⟨([([65536] : List Int)] : List (List Int)), ([(⟨([([65536] : List Int)] : List (List Int)), ([([65536] : List Int)] : List (List Int))⟩ : ApiExpert)] : List ApiExpert), 1⟩ : ApiLayer)] : List ApiLayer).length ([(⟨([([65536] : List Int)] : List (List Int)), ([(⟨([([65536] : List Int)] : List (List Int)), ([([65536] : List Int)] : List (List Int))⟩ : ApiExpert)] : List ApiExpert), 1⟩ : ApiLayer)] : List ApiLayer).length)] hO rfl rfl agg24 rfl rfl) ?_)))
 refine o_litT (en := (eInt .i64)) 5 [(.int .i64 2)] ([2] : List Int) hO sli61 ⟨rfl, trivial⟩ rfl rfl rfl ?_
 intro g29 cs30 w31 hr32 hO
 obtain ⟨H33, le34, h35, hO⟩ := hO.freezeRow (en := (eInt .i64)) 5 rfl rfl rfl hr32
 refine o_litT (en := (eSl (eInt .i64))) 6 [(.slice (some ⟨g29, 0, none⟩) ([2] : List Int).length ([2] : List Int).length)] ([([2] : List Int)] : List (List Int)) hO sli25 ⟨⟨(some ⟨g29, 0, none⟩), ([2] : List Int).length, rfl, h35⟩, trivial⟩ rfl rfl rfl ?_
 intro g36 cs37 w38 hr39 hO
 refine val (x_build [(1, (.slice (some ⟨g36, 0, none⟩) ([([2] : List Int)] : List (List Int)).length ([([2] : List Int)] : List (List Int)).length))] [(.int .i64 0), (.slice (some ⟨g36, 0, none⟩) ([([2] : List Int)] : List (List Int)).length ([([2] : List Int)] : List (List Int)).length)] ⟨rfl, rfl, trivial⟩ (by kernel_rfl)) ?_
 refine o_litT (en := (eInt .i64)) 7 [(.int .i64 7)] ([7] : List Int) hO sli61 ⟨rfl, trivial⟩ rfl rfl rfl ?_
 intro g40 cs41 w42 hr43 hO
 obtain ⟨H44, le45, h46, hO⟩ := hO.freezeRow (en := (eInt .i64)) 7 rfl rfl rfl hr43
 refine o_litT (en := (eSl (eInt .i64))) 8 [(.slice (some ⟨g40, 0, none⟩) ([7] : List Int).length ([7] : List Int).length)] ([([7] : List Int)] : List (List Int)) hO sli25 ⟨⟨(some ⟨g40, 0, none⟩), ([7] : List Int).length, rfl, h46⟩, trivial⟩ rfl rfl rfl ?_
 intro g47 cs48 w49 hr50 hO
 obtain ⟨H51, le52, h53, hO⟩ := hO.freezeRow (en := eApiLayer) 3 rfl rfl rfl (hr25.up (le34.trans le45))
 obtain ⟨H54, le55, h56, hO⟩ := hO.freezeRow (en := (eSl (eInt .i64))) 6 rfl rfl rfl (hr39.up (le45.trans le52))
 obtain ⟨H57, le58, h59, hO⟩ := hO.freezeRow (en := (eSl (eInt .i64))) 8 rfl rfl rfl (hr50.up (le52.trans le55))
 obtain ⟨t60, ht61, hm0⟩ := bindSome hm0
 refine o_callO hO go11 (fleet_New_ok hO.sub (h53.up (le55.trans le58)) (h56.up le58) h59 ht61) rfl ?_
 rintro _ H62 O65 w63 le64 (⟨he66, rfl⟩ | ⟨x67, g68, cs69, A71, c72, cs73, A75, c76, cs77, he66, rfl, h70, h74, h78, hk79, hk80, hk81⟩) hO'
 ·have hO := hO.call hO'.done; clear hO'
  rw [he66] at hm0; dsimp only at hm0
  refine val (x_move (.tuple #[(.pointer none), (.int .i64 t60.2)]) rfl) ?_
  refine val (x_extract (.pointer none) rfl rfl) ?_
  refine val (x_extract (.int .i64 t60.2) rfl rfl) ?_
  refine val (x_assign (.pointer none) rfl) ?_
  refine val (x_assign (.int .i64 t60.2) rfl) ?_
  refine nil (seq (seq (region (val (x_move (.pointer none) rfl) ?_))))
  refine val (x_eqpn underlying33 rfl rfl) ?_
  refine val (x_move (.bool true) rfl) ?_
  refine no rfl rfl rfl ?_
  refine no rfl rfl rfl ?_
  refine val (x_pick_t rfl (.bool true) rfl) ?_
  refine val (x_move (.bool true) rfl) ?_
  refine no rfl rfl rfl ?_
  refine no rfl rfl rfl ?_
  refine no rfl rfl rfl ?_
  refine no rfl rfl rfl ?_
  refine val (x_pick_t rfl (.bool true) rfl) ?_
  refine val (x_move (.bool true) rfl) ?_
  refine no rfl rfl rfl ?_
  refine no rfl rfl rfl ?_
  refine no rfl rfl rfl ?_
  refine val (x_pick_t rfl (.bool true) rfl) ?_
  refine val (x_move (.bool true) rfl) ?_
  refine no rfl rfl rfl ?_
  refine no rfl rfl rfl ?_
  refine no rfl rfl rfl ?_
  refine val (x_pick_t rfl (.bool true) rfl) ?_
  refine nil (W.cond_t rfl ?_)
  refine seq (region (val (x_assign (.bool false) rfl) ?_))
  refine nil (W.ret ?_)
  obtain rfl := sj hm0
  exact ⟨H62, rfl, hO.done⟩
 ·have hO := hO.callB hO' 9 [.blk g68 cs69 93, .row A71 c72 61 (eSl (eInt .i64)).size x67.answers.length cs73, .row A75 c76 4 eBool.size x67.answered.length cs77] ⟨hk79, hk80, hk81, trivial⟩; clear hO'
  rw [he66] at hm0; dsimp only at hm0
  refine val (x_move (.tuple #[(.pointer (some ⟨g68, 0, none⟩)), (.int .i64 t60.2)]) rfl) ?_
  refine val (x_extract (.pointer (some ⟨g68, 0, none⟩)) rfl rfl) ?_
  refine val (x_extract (.int .i64 t60.2) rfl rfl) ?_
  refine val (x_assign (.pointer (some ⟨g68, 0, none⟩)) rfl) ?_
  refine val (x_assign (.int .i64 t60.2) rfl) ?_
  refine nil (seq (seq (region (val (x_move (.pointer (some ⟨g68, 0, none⟩)) rfl) ?_))))
  refine val (x_eqpn underlying33 rfl rfl) ?_
  refine val (x_move (.bool false) rfl) ?_
  refine yes rfl rfl ?_
  refine val (x_move (.int .i64 t60.2) rfl) ?_
  refine yes rfl rfl ?_
  refine val (x_neq rfl rfl) ?_
  refine val (x_pick_f rfl (.bool (t60.2 != 0)) rfl) ?_
  refine val (x_move (.bool (t60.2 != 0)) rfl) ?_
  refine gval rfl rfl (fun hb => x_move (.pointer (some ⟨g68, 0, none⟩)) rfl) ?_
  rcases btest hm0 with ⟨hb82, hm0⟩ | ⟨hb82, hm0⟩
  ·refine no rfl (kb rfl hb82) rfl ?_
   refine no rfl (kb rfl hb82) rfl ?_
   refine no rfl (kb rfl hb82) rfl ?_
   refine val (x_pick_t (kb rfl hb82) (.bool true) rfl) ?_
   refine val (x_move (.bool true) rfl) ?_
   refine no rfl rfl rfl ?_
   refine no rfl rfl rfl ?_
   refine no rfl rfl rfl ?_
   refine val (x_pick_t rfl (.bool true) rfl) ?_
   refine val (x_move (.bool true) rfl) ?_
   refine no rfl rfl rfl ?_
   refine no rfl rfl rfl ?_
   refine no rfl rfl rfl ?_
   refine val (x_pick_t rfl (.bool true) rfl) ?_
   refine nil (W.cond_t rfl ?_)
   refine seq (region (val (x_assign (.bool false) rfl) ?_))
   refine nil (W.ret ?_)
   obtain rfl := sj hm0
   exact ⟨H62, rfl, hO.done⟩
  ·refine yes rfl (kb rfl hb82) ?_
   obtain ⟨t83, ht84, hm0⟩ := bindSome hm0
   refine o_callL (args := [(.pointer (some ⟨g68, 0, none⟩))]) [(9, .blk g68 cs69 93), (10, .row A71 c72 61 (eSl (eInt .i64)).size x67.answers.length cs73), (11, .row A75 c76 4 eBool.size x67.answered.length cs77)] hO ⟨rfl, rfl, rfl, trivial⟩ (names_nd (ns := [9, 10, 11]) rfl (by decide)) go28 (fleet_Fleet_Bag_ok (p0 := x67) (hO.enterL [(9, .blk g68 cs69 93), (10, .row A71 c72 61 (eSl (eInt .i64)).size x67.answers.length cs73), (11, .row A75 c76 4 eBool.size x67.answered.length cs77)] ⟨rfl, rfl, rfl, trivial⟩ (names_nd (ns := [9, 10, 11]) rfl (by decide))) h70 h74 h78 ht84) (args1 (by exact gkF hb82)) ?_
   rintro _ H85 O88 w86 le87 ⟨cs89, A92, c93, cs94, A97, c98, cs99, A102, c103, rfl, h90, h95, h100, h104, hk91, hk96, hk101⟩ hO
   have hO := hO.named [.blk g68 cs89 93, .row A92 c93 61 (eSl (eInt .i64)).size t83.1.answers.length cs94, .row A97 c98 4 eBool.size t83.1.answered.length cs99] ⟨hk91, hk96, hk101, trivial⟩
   refine yes rfl (kb rfl hb82) ?_
   refine val (x_len rfl underlying55) ?_
   refine yes rfl (kb rfl hb82) ?_
   refine val (x_neq rfl rfl) ?_
   refine val (x_pick_f (kb rfl hb82) (.bool ((t83.2.length : Int) != 1)) rfl) ?_
   refine val (x_move (.bool ((t83.2.length : Int) != 1)) rfl) ?_
   refine gval rfl rfl (fun hb => x_move (.pointer (some ⟨g68, 0, none⟩)) rfl) ?_
   rcases btest hm0 with ⟨hb105, hm0⟩ | ⟨hb105, hm0⟩
   ·refine no rfl (kb rfl hb105) rfl ?_
    refine no rfl (kb rfl hb105) rfl ?_
    refine val (x_pick_t (kb rfl hb105) (.bool true) rfl) ?_
    refine val (x_move (.bool true) rfl) ?_
    refine no rfl rfl rfl ?_
    refine no rfl rfl rfl ?_
    refine no rfl rfl rfl ?_
    refine val (x_pick_t rfl (.bool true) rfl) ?_
    refine nil (W.cond_t rfl ?_)
    refine seq (region (val (x_assign (.bool false) rfl) ?_))
    refine nil (W.ret ?_)
    obtain rfl := sj hm0
    exact ⟨H85, rfl, hO.done⟩
   ·refine yes rfl (kb rfl hb105) ?_
    obtain ⟨t106, ht107, hm0⟩ := bindSome hm0
    refine o_callL (args := [(.pointer (some ⟨g68, 0, none⟩)), (.int .i64 0)]) [(9, .blk g68 cs89 93), (10, .row A92 c93 61 (eSl (eInt .i64)).size t83.1.answers.length cs94), (11, .row A97 c98 4 eBool.size t83.1.answered.length cs99)] hO ⟨rfl, rfl, rfl, trivial⟩ (names_nd (ns := [9, 10, 11]) rfl (by decide)) go14 (fleet_Fleet_Deliver_ok (p0 := t83.1) (p1 := 0) (hO.enterL [(9, .blk g68 cs89 93), (10, .row A92 c93 61 (eSl (eInt .i64)).size t83.1.answers.length cs94), (11, .row A97 c98 4 eBool.size t83.1.answered.length cs99)] ⟨rfl, rfl, rfl, trivial⟩ (names_nd (ns := [9, 10, 11]) rfl (by decide))) h90 h95 h100 ht107) (args2 (by exact gkF hb105) rfl) ?_
    rintro _ H108 O111 w109 le110 ⟨cs112, A115, c116, cs117, A120, c121, cs122, rfl, h113, h118, h123, hk114, hk119, hk124⟩ hO
    have hO := hO.named [.blk g68 cs112 93, .row A115 c116 61 (eSl (eInt .i64)).size t106.1.answers.length cs117, .row A120 c121 4 eBool.size t106.1.answered.length cs122] ⟨hk114, hk119, hk124, trivial⟩
    refine yes rfl (kb rfl hb105) ?_
    refine val (x_neq rfl rfl) ?_
    refine val (x_pick_f (kb rfl hb105) (.bool (t106.2 != 0)) rfl) ?_
    refine val (x_move (.bool (t106.2 != 0)) rfl) ?_
    refine gval rfl rfl (fun hb => x_move (.pointer (some ⟨g68, 0, none⟩)) rfl) ?_
    rcases btest hm0 with ⟨hb125, hm0⟩ | ⟨hb125, hm0⟩
    ·refine no rfl (kb rfl hb125) rfl ?_
     refine no rfl (kb rfl hb125) rfl ?_
     refine val (x_pick_t (kb rfl hb125) (.bool true) rfl) ?_
     refine nil (W.cond_t rfl ?_)
     refine seq (region (val (x_assign (.bool false) rfl) ?_))
     refine nil (W.ret ?_)
     obtain rfl := sj hm0
     exact ⟨H108, rfl, hO.done⟩
    ·refine yes rfl (kb rfl hb125) ?_
     obtain ⟨t126, ht127, hm0⟩ := bindSome hm0
     refine o_callL (args := [(.pointer (some ⟨g68, 0, none⟩)), (.int .i64 0)]) [(9, .blk g68 cs112 93), (10, .row A115 c116 61 (eSl (eInt .i64)).size t106.1.answers.length cs117), (11, .row A120 c121 4 eBool.size t106.1.answered.length cs122)] hO ⟨rfl, rfl, rfl, trivial⟩ (names_nd (ns := [9, 10, 11]) rfl (by decide)) go14 (fleet_Fleet_Deliver_ok (p0 := t106.1) (p1 := 0) (hO.enterL [(9, .blk g68 cs112 93), (10, .row A115 c116 61 (eSl (eInt .i64)).size t106.1.answers.length cs117), (11, .row A120 c121 4 eBool.size t106.1.answered.length cs122)] ⟨rfl, rfl, rfl, trivial⟩ (names_nd (ns := [9, 10, 11]) rfl (by decide))) h113 h118 h123 ht127) (args2 (by exact gkF hb125) rfl) ?_
     rintro _ H128 O131 w129 le130 ⟨cs132, A135, c136, cs137, A140, c141, cs142, rfl, h133, h138, h143, hk134, hk139, hk144⟩ hO
     have hO := hO.named [.blk g68 cs132 93, .row A135 c136 61 (eSl (eInt .i64)).size t126.1.answers.length cs137, .row A140 c141 4 eBool.size t126.1.answered.length cs142] ⟨hk134, hk139, hk144, trivial⟩
     refine yes rfl (kb rfl hb125) ?_
     refine val (x_neq rfl rfl) ?_
     refine val (x_pick_f (kb rfl hb125) (.bool (t126.2 != 0)) rfl) ?_
     refine nil (test rfl hm0 ?_ ?_)
     ·intro hb145 hm0
      refine seq (region (val (x_assign (.bool false) rfl) ?_))
      refine nil (W.ret ?_)
      obtain rfl := sj hm0
      exact ⟨H128, rfl, hO.done⟩
     ·intro hb145 hm0
      refine skip (seq (region (val (x_move (.pointer (some ⟨g68, 0, none⟩)) rfl) ?_)))
      obtain ⟨t146, ht147, hm0⟩ := bindSome hm0
      refine o_callL (args := [(.pointer (some ⟨g68, 0, none⟩))]) [(9, .blk g68 cs132 93), (10, .row A135 c136 61 (eSl (eInt .i64)).size t126.1.answers.length cs137), (11, .row A140 c141 4 eBool.size t126.1.answered.length cs142)] hO ⟨rfl, rfl, rfl, trivial⟩ (names_nd (ns := [9, 10, 11]) rfl (by decide)) go15 (fleet_Fleet_Done_ok (p0 := t126.1) (hO.enterL [(9, .blk g68 cs132 93), (10, .row A135 c136 61 (eSl (eInt .i64)).size t126.1.answers.length cs137), (11, .row A140 c141 4 eBool.size t126.1.answered.length cs142)] ⟨rfl, rfl, rfl, trivial⟩ (names_nd (ns := [9, 10, 11]) rfl (by decide))) h133 h138 h143 ht147) rfl ?_
      rintro _ H148 O151 w149 le150 ⟨cs152, A155, c156, cs157, A160, c161, cs162, A165, c166, rfl, h153, h158, h163, h167, hk154, hk159, hk164⟩ hO
      have hO := hO.named [.blk g68 cs152 93, .row A155 c156 61 (eSl (eInt .i64)).size t146.1.answers.length cs157, .row A160 c161 4 eBool.size t146.1.answered.length cs162] ⟨hk154, hk159, hk164, trivial⟩
      refine val (x_move (.tuple #[(.slice A165 t146.2.1.length c166), (.bool t146.2.2)]) rfl) ?_
      refine val (x_extract (.slice A165 t146.2.1.length c166) rfl rfl) ?_
      refine val (x_extract (.bool t146.2.2) rfl rfl) ?_
      refine val (x_assign (.slice A165 t146.2.1.length c166) rfl) ?_
      refine val (x_assign (.bool t146.2.2) rfl) ?_
      refine nil (seq (region (val (x_move (.bool t146.2.2) rfl) ?_)))
      refine val (x_move (.bool t146.2.2) rfl) ?_
      refine gval rfl rfl (fun hb => x_move (.slice A165 t146.2.1.length c166) rfl) ?_
      refine gval rfl rfl (fun hb => x_len (gv hb) underlying25) ?_
      refine gval rfl rfl (fun hb => x_eql (gv hb) rfl) ?_
      refine val (x_pick rfl (.bool (t146.2.2 && ((t146.2.1.length : Int) == 1))) pick_and) ?_
      refine val (x_move (.bool (t146.2.2 && ((t146.2.1.length : Int) == 1))) rfl) ?_
      refine gval rfl rfl (fun hb => x_move (.slice A165 t146.2.1.length c166) rfl) ?_
      rcases btest hm0 with ⟨hb168, hm0⟩ | ⟨hb168, hm0⟩
      ·refine yes rfl (kb rfl hb168) ?_
       obtain ⟨hin172, hm0⟩ := chk hm0
       obtain ⟨a169, h170, hA171⟩ := RS.at_ h167 hin172
       refine val (x_ia (sA (by exact gkT hb168) hA171) rfl sle25 hin172) ?_
       obtain ⟨A173, c174, h175, hc176⟩ := At.sl h170
       refine yes rfl (kb rfl hb168) ?_
       refine val (x_ldc rfl (hc176 _ hO.sub) one61) ?_
       refine yes rfl (kb rfl hb168) ?_
       refine val (x_len rfl underlying61) ?_
       refine yes rfl (kb rfl hb168) ?_
       refine val (x_eql rfl rfl) ?_
       refine val (x_pick_t (kb rfl hb168) (.bool (((at0 t146.2.1 0).length : Int) == 1)) rfl) ?_
       refine val (x_move (.bool (((at0 t146.2.1 0).length : Int) == 1)) rfl) ?_
       refine gval rfl rfl (fun hb => x_move (.slice A165 t146.2.1.length c166) rfl) ?_
       rcases btest hm0 with ⟨hb177, hm0⟩ | ⟨hb177, hm0⟩
       ·refine yes rfl (kb rfl hb177) ?_
        obtain ⟨hin181, hm0⟩ := chk hm0
        obtain ⟨a178, h179, hA180⟩ := RS.at_ h167 hin181
        refine val (x_ia (sA (by exact gkT hb177) hA180) rfl sle25 hin181) ?_
        obtain ⟨A182, c183, h184, hc185⟩ := At.sl h179
        refine yes rfl (kb rfl hb177) ?_
        refine val (x_ldc rfl (hc185 _ hO.sub) one61) ?_
        refine yes rfl (kb rfl hb177) ?_
        obtain ⟨hin189, hm0⟩ := chk hm0
        obtain ⟨a186, h187, hA188⟩ := RS.at_ h184 hin189
        refine val (x_ia (sA rfl hA188) rfl sle61 hin189) ?_
        refine yes rfl (kb rfl hb177) ?_
        refine val (x_ldc rfl (h187.int _ hO.sub) one3) ?_
        refine yes rfl (kb rfl hb177) ?_
        refine val (x_eql rfl rfl) ?_
        refine val (x_pick_t (kb rfl hb177) (.bool ((at0 (at0 t146.2.1 0) 0) == 14)) rfl) ?_
        refine val (x_move (.bool ((at0 (at0 t146.2.1 0) 0) == 14)) rfl) ?_
        refine gval rfl rfl (fun hb => x_move (.pointer (some ⟨g68, 0, none⟩)) rfl) ?_
        rcases btest hm0 with ⟨hb190, hm0⟩ | ⟨hb190, hm0⟩
        ·refine yes rfl (kb rfl hb190) ?_
         obtain ⟨t191, ht192, hm0⟩ := bindSome hm0
         refine o_callL (args := [(.pointer (some ⟨g68, 0, none⟩))]) [(9, .blk g68 cs152 93), (10, .row A155 c156 61 (eSl (eInt .i64)).size t146.1.answers.length cs157), (11, .row A160 c161 4 eBool.size t146.1.answered.length cs162)] hO ⟨rfl, rfl, rfl, trivial⟩ (names_nd (ns := [9, 10, 11]) rfl (by decide)) go17 (fleet_Fleet_Worked_ok (p0 := t146.1) (hO.enterL [(9, .blk g68 cs152 93), (10, .row A155 c156 61 (eSl (eInt .i64)).size t146.1.answers.length cs157), (11, .row A160 c161 4 eBool.size t146.1.answered.length cs162)] ⟨rfl, rfl, rfl, trivial⟩ (names_nd (ns := [9, 10, 11]) rfl (by decide))) h153 h158 h163 ht192) (args1 (by exact gkT hb190)) ?_
         rintro _ H193 O196 w194 le195 ⟨cs197, A200, c201, cs202, A205, c206, cs207, rfl, h198, h203, h208, hk199, hk204, hk209⟩ hO
         have hO := hO.named [.blk g68 cs197 93, .row A200 c201 61 (eSl (eInt .i64)).size t191.1.answers.length cs202, .row A205 c206 4 eBool.size t191.1.answered.length cs207] ⟨hk199, hk204, hk209, trivial⟩
         refine yes rfl (kb rfl hb190) ?_
         refine val (x_eql rfl rfl) ?_
         refine val (x_pick_t (kb rfl hb190) (.bool (t191.2 == 1)) rfl) ?_
         refine val (x_move (.bool (t191.2 == 1)) rfl) ?_
         refine gval rfl rfl (fun hb => x_move (.pointer (some ⟨g68, 0, none⟩)) rfl) ?_
         rcases btest hm0 with ⟨hb210, hm0⟩ | ⟨hb210, hm0⟩
         ·refine yes rfl (kb rfl hb210) ?_
          obtain ⟨t211, ht212, hm0⟩ := bindSome hm0
          refine o_callL (args := [(.pointer (some ⟨g68, 0, none⟩)), (.int .i64 0)]) [(9, .blk g68 cs197 93), (10, .row A200 c201 61 (eSl (eInt .i64)).size t191.1.answers.length cs202), (11, .row A205 c206 4 eBool.size t191.1.answered.length cs207)] hO ⟨rfl, rfl, rfl, trivial⟩ (names_nd (ns := [9, 10, 11]) rfl (by decide)) go33 (fleet_Fleet_Drop_ok (p0 := t191.1) (p1 := 0) (hO.enterL [(9, .blk g68 cs197 93), (10, .row A200 c201 61 (eSl (eInt .i64)).size t191.1.answers.length cs202), (11, .row A205 c206 4 eBool.size t191.1.answered.length cs207)] ⟨rfl, rfl, rfl, trivial⟩ (names_nd (ns := [9, 10, 11]) rfl (by decide))) h198 h203 h208 ht212) (args2 (by exact gkT hb210) rfl) ?_
          rintro _ H213 O216 w214 le215 ⟨cs217, A220, c221, cs222, A225, c226, cs227, rfl, h218, h223, h228, hk219, hk224, hk229⟩ hO
          have hO := hO.named [.blk g68 cs217 93, .row A220 c221 61 (eSl (eInt .i64)).size t211.1.answers.length cs222, .row A225 c226 4 eBool.size t211.1.answered.length cs227] ⟨hk219, hk224, hk229, trivial⟩
          refine yes rfl (kb rfl hb210) ?_
          refine val (x_eql rfl rfl) ?_
          refine val (x_pick_t (kb rfl hb210) (.bool (t211.2 == 4)) rfl) ?_
          refine val (x_assign (.bool (t211.2 == 4)) rfl) ?_
          refine nil (W.ret ?_)
          obtain rfl := sj hm0
          exact ⟨H213, rfl, hO.done⟩
         ·refine no rfl (kb rfl hb210) rfl ?_
          refine no rfl (kb rfl hb210) rfl ?_
          refine val (x_pick_f (kb rfl hb210) (.bool false) rfl) ?_
          refine val (x_assign (.bool false) rfl) ?_
          refine nil (W.ret ?_)
          obtain rfl := sj hm0
          exact ⟨H193, rfl, hO.done⟩
        ·refine no rfl (kb rfl hb190) rfl ?_
         refine no rfl (kb rfl hb190) rfl ?_
         refine val (x_pick_f (kb rfl hb190) (.bool false) rfl) ?_
         refine val (x_move (.bool false) rfl) ?_
         refine no rfl rfl rfl ?_
         refine no rfl rfl rfl ?_
         refine no rfl rfl rfl ?_
         refine val (x_pick_f rfl (.bool false) rfl) ?_
         refine val (x_assign (.bool false) rfl) ?_
         refine nil (W.ret ?_)
         obtain rfl := sj hm0
         exact ⟨H148, rfl, hO.done⟩
       ·refine no rfl (kb rfl hb177) rfl ?_
        refine no rfl (kb rfl hb177) rfl ?_
        refine no rfl (kb rfl hb177) rfl ?_
        refine no rfl (kb rfl hb177) rfl ?_
        refine no rfl (kb rfl hb177) rfl ?_
        refine val (x_pick_f (kb rfl hb177) (.bool false) rfl) ?_
        refine val (x_move (.bool false) rfl) ?_
        refine no rfl rfl rfl ?_
        refine no rfl rfl rfl ?_
        refine no rfl rfl rfl ?_
        refine val (x_pick_f rfl (.bool false) rfl) ?_
        refine val (x_move (.bool false) rfl) ?_
        refine no rfl rfl rfl ?_
        refine no rfl rfl rfl ?_
        refine no rfl rfl rfl ?_
        refine val (x_pick_f rfl (.bool false) rfl) ?_
        refine val (x_assign (.bool false) rfl) ?_
        refine nil (W.ret ?_)
        obtain rfl := sj hm0
        exact ⟨H148, rfl, hO.done⟩
      ·refine no rfl (kb rfl hb168) rfl ?_
       refine no rfl (kb rfl hb168) rfl ?_
       refine no rfl (kb rfl hb168) rfl ?_
       refine no rfl (kb rfl hb168) rfl ?_
       refine val (x_pick_f (kb rfl hb168) (.bool false) rfl) ?_
       refine val (x_move (.bool false) rfl) ?_
       refine no rfl rfl rfl ?_
       refine no rfl rfl rfl ?_
       refine no rfl rfl rfl ?_
       refine no rfl rfl rfl ?_
       refine no rfl rfl rfl ?_
       refine no rfl rfl rfl ?_
       refine val (x_pick_f rfl (.bool false) rfl) ?_
       refine val (x_move (.bool false) rfl) ?_
       refine no rfl rfl rfl ?_
       refine no rfl rfl rfl ?_
       refine no rfl rfl rfl ?_
       refine val (x_pick_f rfl (.bool false) rfl) ?_
       refine val (x_move (.bool false) rfl) ?_
       refine no rfl rfl rfl ?_
       refine no rfl rfl rfl ?_
       refine no rfl rfl rfl ?_
       refine val (x_pick_f rfl (.bool false) rfl) ?_
       refine val (x_assign (.bool false) rfl) ?_
       refine nil (W.ret ?_)
       obtain rfl := sj hm0
       exact ⟨H148, rfl, hO.done⟩
theorem switchboardref01_Hold_ok {w0 : World} {H0 : IHeap} (hS : Sub H0 w0) {p0 : Int}    {res : Int} (hm0 : switchboardref01_Hold p0 = some res) :
  Ok prog 88 [(.int .i64 p0)].toArray w0 H0 (fun H' v => v = (.int .i64 res)) := by
 unfold switchboardref01_Hold at hm0
 refine ok_of_W Tryz.func88 rfl Tryz.ntmps88 (ts := [2]) rfl rfl rfl ?_
 have hO := St.start hS
 refine seq (region (val (x_assign (.int .i64 0) rfl) ?_))
 refine nil (seq (seq (region (val (x_move (.int .i64 p0) rfl) ?_))))
 refine val (x_gtr rfl rfl) ?_
 refine nil (test rfl hm0 ?_ ?_)
 ·intro hb1 hm0
  refine seq (region (val (x_assign (.int .i64 2147483647) rfl) ?_))
  refine nil (W.ret ?_)
  obtain rfl := sj hm0
  exact ⟨H0, rfl, hO.done⟩
 ·intro hb1 hm0
  refine skip (seq (seq (region (val (x_move (.int .i64 p0) rfl) ?_))))
  refine val (x_lss rfl rfl) ?_
  refine nil (test rfl hm0 ?_ ?_)
  ·intro hb2 hm0
   refine seq (region (val (x_assign (.int .i64 (-2147483647)) rfl) ?_))
   refine nil (W.ret ?_)
   obtain rfl := sj hm0
   exact ⟨H0, rfl, hO.done⟩
  ·intro hb2 hm0
   refine skip (seq (region (val (x_move (.int .i64 p0) rfl) ?_)))
   refine val (x_assign (.int .i64 p0) rfl) ?_
   refine nil (W.ret ?_)
   obtain rfl := sj hm0
   exact ⟨H0, rfl, hO.done⟩
theorem switchboardref01_Mul_ok {w0 : World} {H0 : IHeap} (hS : Sub H0 w0) {p0 : Int} {p1 : Int}    {res : Int} (hm0 : switchboardref01_Mul p0 p1 = some res) :
  Ok prog 89 [(.int .i64 p0), (.int .i64 p1)].toArray w0 H0 (fun H' v => v = (.int .i64 res)) := by
 unfold switchboardref01_Mul at hm0
 refine ok_of_W Tryz.func89 rfl Tryz.ntmps89 (ts := [4]) rfl rfl rfl ?_
 have hO := St.start hS
 refine seq (region (val (x_assign (.int .i64 0) rfl) ?_))
 refine nil (seq (region (val (x_move (.int .i64 p0) rfl) ?_)))
 obtain ⟨t1, ht2, hm0⟩ := bindSome hm0
 refine o_call hO go88 (switchboardref01_Hold_ok hO.sub  ht2) rfl ?_
 rintro _ H3 w4 le5 rfl hO
 refine val (x_move (.int .i64 p1) rfl) ?_
 obtain ⟨t6, ht7, hm0⟩ := bindSome hm0
 refine o_call hO go88 (switchboardref01_Hold_ok hO.sub  ht7) rfl ?_
 rintro _ H8 w9 le10 rfl hO
 refine val (x_assign (.int .i64 t1) rfl) ?_
 refine val (x_assign (.int .i64 t6) rfl) ?_
 refine nil (seq (region (val (x_assign (.bool false) rfl) ?_)))
 refine nil (seq (seq (region (val (x_move (.int .i64 t1) rfl) ?_))))
 refine val (x_lss rfl rfl) ?_
 refine nil (test rfl hm0 ?_ ?_)
 ·intro hb11 hm0
  refine region (val (x_move (.int .i64 t1) rfl) ?_)
  refine val (x_neg rfl) ?_
  refine val (x_move (.bool false) rfl) ?_
  refine val (x_not rfl) ?_
  refine val (x_assign (.int .i64 (i64w (0 - t1))) rfl) ?_
  refine val (x_assign (.bool (!false)) rfl) ?_
  refine nil (seq (seq (region (val (x_move (.int .i64 t6) rfl) ?_))))
  refine val (x_lss rfl rfl) ?_
  refine nil (test rfl hm0 ?_ ?_)
  ·intro hb12 hm0
   refine region (val (x_move (.int .i64 t6) rfl) ?_)
   refine val (x_neg rfl) ?_
   refine val (x_move (.bool (!false)) rfl) ?_
   refine val (x_not rfl) ?_
   refine val (x_assign (.int .i64 (i64w (0 - t6))) rfl) ?_
   refine val (x_assign (.bool (!(!false))) rfl) ?_
   refine nil (seq (region (val (x_move (.int .i64 (i64w (0 - t1))) rfl) ?_)))
   refine val (x_move (.int .i64 (i64w (0 - t6))) rfl) ?_
   refine val (x_mul rfl rfl) ?_
   refine val (x_quo rfl rfl rfl) ?_
   refine val (x_assign (.int .i64 (i64w (Int.tdiv (i64w ((i64w (0 - t1)) * (i64w (0 - t6)))) 65536))) rfl) ?_
   refine nil (seq (seq (region (val (x_move (.bool (!(!false))) rfl) ?_))))
   refine nil (test rfl hm0 ?_ ?_)
   ·intro hb13 hm0
    refine region (val (x_move (.int .i64 (i64w (Int.tdiv (i64w ((i64w (0 - t1)) * (i64w (0 - t6)))) 65536))) rfl) ?_)
    refine val (x_neg rfl) ?_
    refine val (x_assign (.int .i64 (i64w (0 - (i64w (Int.tdiv (i64w ((i64w (0 - t1)) * (i64w (0 - t6)))) 65536))))) rfl) ?_
    refine nil (seq (region (val (x_move (.int .i64 (i64w (0 - (i64w (Int.tdiv (i64w ((i64w (0 - t1)) * (i64w (0 - t6)))) 65536))))) rfl) ?_)))
    obtain ⟨t14, ht15, hm0⟩ := bindSome hm0
    refine o_call hO go88 (switchboardref01_Hold_ok hO.sub  ht15) rfl ?_
    rintro _ H16 w17 le18 rfl hO
    refine val (x_assign (.int .i64 t14) rfl) ?_
    refine nil (W.ret ?_)
    obtain rfl := sj hm0
    exact ⟨H16, rfl, hO.done⟩
   ·intro hb13 hm0
    refine skip (seq (region (val (x_move (.int .i64 (i64w (Int.tdiv (i64w ((i64w (0 - t1)) * (i64w (0 - t6)))) 65536))) rfl) ?_)))
    obtain ⟨t19, ht20, hm0⟩ := bindSome hm0
    refine o_call hO go88 (switchboardref01_Hold_ok hO.sub  ht20) rfl ?_
    rintro _ H21 w22 le23 rfl hO
    refine val (x_assign (.int .i64 t19) rfl) ?_
    refine nil (W.ret ?_)
    obtain rfl := sj hm0
    exact ⟨H21, rfl, hO.done⟩
  ·intro hb12 hm0
   refine skip (seq (region (val (x_move (.int .i64 (i64w (0 - t1))) rfl) ?_)))
   refine val (x_move (.int .i64 t6) rfl) ?_
   refine val (x_mul rfl rfl) ?_
   refine val (x_quo rfl rfl rfl) ?_
   refine val (x_assign (.int .i64 (i64w (Int.tdiv (i64w ((i64w (0 - t1)) * t6)) 65536))) rfl) ?_
   refine nil (seq (seq (region (val (x_move (.bool (!false)) rfl) ?_))))
   refine nil (test rfl hm0 ?_ ?_)
   ·intro hb24 hm0
    refine region (val (x_move (.int .i64 (i64w (Int.tdiv (i64w ((i64w (0 - t1)) * t6)) 65536))) rfl) ?_)
    refine val (x_neg rfl) ?_
    refine val (x_assign (.int .i64 (i64w (0 - (i64w (Int.tdiv (i64w ((i64w (0 - t1)) * t6)) 65536))))) rfl) ?_
    refine nil (seq (region (val (x_move (.int .i64 (i64w (0 - (i64w (Int.tdiv (i64w ((i64w (0 - t1)) * t6)) 65536))))) rfl) ?_)))
    obtain ⟨t25, ht26, hm0⟩ := bindSome hm0
    refine o_call hO go88 (switchboardref01_Hold_ok hO.sub  ht26) rfl ?_
    rintro _ H27 w28 le29 rfl hO
    refine val (x_assign (.int .i64 t25) rfl) ?_
    refine nil (W.ret ?_)
    obtain rfl := sj hm0
    exact ⟨H27, rfl, hO.done⟩
   ·intro hb24 hm0
    refine skip (seq (region (val (x_move (.int .i64 (i64w (Int.tdiv (i64w ((i64w (0 - t1)) * t6)) 65536))) rfl) ?_)))
    obtain ⟨t30, ht31, hm0⟩ := bindSome hm0
    refine o_call hO go88 (switchboardref01_Hold_ok hO.sub  ht31) rfl ?_
    rintro _ H32 w33 le34 rfl hO
    refine val (x_assign (.int .i64 t30) rfl) ?_
    refine nil (W.ret ?_)
    obtain rfl := sj hm0
    exact ⟨H32, rfl, hO.done⟩
 ·intro hb11 hm0
  refine skip (seq (seq (region (val (x_move (.int .i64 t6) rfl) ?_))))
  refine val (x_lss rfl rfl) ?_
  refine nil (test rfl hm0 ?_ ?_)
  ·intro hb35 hm0
   refine region (val (x_move (.int .i64 t6) rfl) ?_)
   refine val (x_neg rfl) ?_
   refine val (x_move (.bool false) rfl) ?_
   refine val (x_not rfl) ?_
   refine val (x_assign (.int .i64 (i64w (0 - t6))) rfl) ?_
   refine val (x_assign (.bool (!false)) rfl) ?_
   refine nil (seq (region (val (x_move (.int .i64 t1) rfl) ?_)))
   refine val (x_move (.int .i64 (i64w (0 - t6))) rfl) ?_
   refine val (x_mul rfl rfl) ?_
   refine val (x_quo rfl rfl rfl) ?_
   refine val (x_assign (.int .i64 (i64w (Int.tdiv (i64w (t1 * (i64w (0 - t6)))) 65536))) rfl) ?_
   refine nil (seq (seq (region (val (x_move (.bool (!false)) rfl) ?_))))
   refine nil (test rfl hm0 ?_ ?_)
   ·intro hb36 hm0
    refine region (val (x_move (.int .i64 (i64w (Int.tdiv (i64w (t1 * (i64w (0 - t6)))) 65536))) rfl) ?_)
    refine val (x_neg rfl) ?_
    refine val (x_assign (.int .i64 (i64w (0 - (i64w (Int.tdiv (i64w (t1 * (i64w (0 - t6)))) 65536))))) rfl) ?_
    refine nil (seq (region (val (x_move (.int .i64 (i64w (0 - (i64w (Int.tdiv (i64w (t1 * (i64w (0 - t6)))) 65536))))) rfl) ?_)))
    obtain ⟨t37, ht38, hm0⟩ := bindSome hm0
    refine o_call hO go88 (switchboardref01_Hold_ok hO.sub  ht38) rfl ?_
    rintro _ H39 w40 le41 rfl hO
    refine val (x_assign (.int .i64 t37) rfl) ?_
    refine nil (W.ret ?_)
    obtain rfl := sj hm0
    exact ⟨H39, rfl, hO.done⟩
   ·intro hb36 hm0
    refine skip (seq (region (val (x_move (.int .i64 (i64w (Int.tdiv (i64w (t1 * (i64w (0 - t6)))) 65536))) rfl) ?_)))
    obtain ⟨t42, ht43, hm0⟩ := bindSome hm0
    refine o_call hO go88 (switchboardref01_Hold_ok hO.sub  ht43) rfl ?_
    rintro _ H44 w45 le46 rfl hO
    refine val (x_assign (.int .i64 t42) rfl) ?_
    refine nil (W.ret ?_)
    obtain rfl := sj hm0
    exact ⟨H44, rfl, hO.done⟩
  ·intro hb35 hm0
   refine skip (seq (region (val (x_move (.int .i64 t1) rfl) ?_)))
   refine val (x_move (.int .i64 t6) rfl) ?_
   refine val (x_mul rfl rfl) ?_
   refine val (x_quo rfl rfl rfl) ?_
   refine val (x_assign (.int .i64 (i64w (Int.tdiv (i64w (t1 * t6)) 65536))) rfl) ?_
   refine nil (seq (seq (region (val (x_move (.bool false) rfl) ?_))))
   refine nil (W.cond_f rfl ?_)
   refine skip (seq (region (val (x_move (.int .i64 (i64w (Int.tdiv (i64w (t1 * t6)) 65536))) rfl) ?_)))
   obtain ⟨t47, ht48, hm0⟩ := bindSome hm0
   refine o_call hO go88 (switchboardref01_Hold_ok hO.sub  ht48) rfl ?_
   rintro _ H49 w50 le51 rfl hO
   refine val (x_assign (.int .i64 t47) rfl) ?_
   refine nil (W.ret ?_)
   obtain rfl := sj hm0
   exact ⟨H49, rfl, hO.done⟩
end Go.Sw

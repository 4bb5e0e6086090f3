/- The calls compute the mirrors. -/
import Derived.Test.YtahaedoeckgidaaGreatZgF
import Derived.Test.YtahaedoeckgidaaGreatZgC4
import Derived.Test.YtahaedoeckgidaaGreatZgC10
import Derived.Test.YtahaedoeckgidaaGreatZgC11
import Derived.Test.YtahaedoeckgidaaGreatZgC12
import Derived.Test.YtahaedoeckgidaaGreatZgC16
set_option linter.unusedVariables false
set_option linter.unusedSimpArgs false
set_option maxRecDepth 100000
namespace Go.Sw
open WL (val nil gval yes no)
open W (region test seq skip)
open WA (take)
open Go.Proofs.Tryz
open Go.Proofs
theorem place_Retire_ok {w0 : World} {H0 : IHeap} (hS : Sub H0 w0) {p0 : PlaceMap} {p1 : Int} {p2 : Int}  {A1_ : Option Addr} {c1_ : Nat} (h1_ : RS (eSl (eInt .i64)) H0 A1_ c1_ p0.Holders) {res : PlaceMap × Int} (hm0 : place_Retire p0 p1 p2 = some res) :
  Ok prog 118 [(.agg #[(.int .i64 p0.Epoch), (.slice A1_ p0.Holders.length c1_)]), (.int .i64 p1), (.int .i64 p2)].toArray w0 H0 (fun H' v => ∃ (A1 : Option Addr) (c1 : Nat), v = (.tuple #[(.agg #[(.int .i64 res.1.Epoch), (.slice A1 res.1.Holders.length c1)]), (.int .i64 res.2)]) ∧ RS (eSl (eInt .i64)) H' A1 c1 res.1.Holders) := by
 unfold place_Retire at hm0
 refine OkO.ok (okO_of_W Tryz.func118 rfl Tryz.ntmps118 (rs := [.cell 6 27, .tmp 7]) rfl rfl ?_)
 have hO := St.start hS
 refine seq (region (o_box 0 [(.int .i64 p0.Epoch), (.slice A1_ p0.Holders.length c1_)] hO rfl ?_))
 intro g1 w2 hO
 refine o_box 1 [(.int .i64 p2)] hO rfl ?_
 intro g3 w4 hO
 refine o_alloc 2 _ [(.int .i64 0), (.slice none 0 0)] zer27 hO rfl ?_
 intro g5 w6 hO
 refine val (x_assign (.int .i64 0) rfl) ?_
 refine nil (seq (W.block ?_))
 refine seq (region (val (x_lds 0 [(.int .i64 p0.Epoch), (.slice A1_ p0.Holders.length c1_)] hO rfl rfl agg27 rfl rfl) ?_))
 refine val (x_move (.int .i64 p1) rfl) ?_
 refine val (x_ld 1 (.int .i64 p2) hO rfl rfl rfl one3) ?_
 obtain ⟨t7, ht8, hm0⟩ := bindSome hm0
 refine o_call hO go146 (place_may_ok hO.sub h1_ ht8) rfl ?_
 rintro _ H9 w10 le11 rfl hO
 refine val (x_not rfl) ?_
 refine val (x_assign (.bool (!t7)) rfl) ?_
 refine nil (test rfl hm0 ?_ ?_)
 ·intro hb12 hm0
  refine seq (region (val (x_lds 0 [(.int .i64 p0.Epoch), (.slice A1_ p0.Holders.length c1_)] hO rfl rfl agg27 rfl rfl) ?_))
  refine o_sts 2 [(.int .i64 p0.Epoch), (.slice A1_ p0.Holders.length c1_)] hO rfl rfl rfl siz27 rfl (Nat.le_of_ble_eq_true rfl) (by simp [Value.oneCell', vs]) ?_
  intro w13 hO
  refine val (x_assign (.int .i64 1) rfl) ?_
  refine nil (W.ret ?_)
  obtain rfl := sj hm0
  exact ⟨[(.agg #[(.int .i64 p0.Epoch), (.slice A1_ p0.Holders.length c1_)]), (.int .i64 1)], ⟨⟨_, rfl, hO.ldBlk 2 rfl agg27 rfl rfl⟩, rfl, trivial⟩, H9, _, ⟨A1_, c1_, rfl, (h1_.up le11)⟩, hO⟩
 ·intro hb12 hm0
  refine seq (region (val (x_lds 0 [(.int .i64 p0.Epoch), (.slice A1_ p0.Holders.length c1_)] hO rfl rfl agg27 rfl rfl) ?_))
  refine val (x_move (.int .i64 p1) rfl) ?_
  refine val (x_ld 1 (.int .i64 p2) hO rfl rfl rfl one3) ?_
  obtain ⟨t14, ht15, hm0⟩ := bindSome hm0
  refine o_call hO go98 (place_Holds_ok hO.sub (h1_.up le11) ht15) rfl ?_
  rintro _ H16 w17 le18 rfl hO
  refine val (x_not rfl) ?_
  refine val (x_assign (.bool (!t14)) rfl) ?_
  refine nil (test rfl hm0 ?_ ?_)
  ·intro hb19 hm0
   refine seq (region (val (x_lds 0 [(.int .i64 p0.Epoch), (.slice A1_ p0.Holders.length c1_)] hO rfl rfl agg27 rfl rfl) ?_))
   refine o_sts 2 [(.int .i64 p0.Epoch), (.slice A1_ p0.Holders.length c1_)] hO rfl rfl rfl siz27 rfl (Nat.le_of_ble_eq_true rfl) (by simp [Value.oneCell', vs]) ?_
   intro w20 hO
   refine val (x_assign (.int .i64 4) rfl) ?_
   refine nil (W.ret ?_)
   obtain rfl := sj hm0
   exact ⟨[(.agg #[(.int .i64 p0.Epoch), (.slice A1_ p0.Holders.length c1_)]), (.int .i64 4)], ⟨⟨_, rfl, hO.ldBlk 2 rfl agg27 rfl rfl⟩, rfl, trivial⟩, H16, _, ⟨A1_, c1_, rfl, (h1_.up (le11.trans le18))⟩, hO⟩
  ·intro hb19 hm0
   refine seq (region (val (x_fa rfl fo27_1) ?_))
   refine val (x_ld 0 (.slice A1_ p0.Holders.length c1_) hO rfl rfl rfl one25) ?_
   refine val (x_move (.int .i64 p1) rfl) ?_
   obtain ⟨hin24, hm0⟩ := chk hm0
   obtain ⟨a21, h22, hA23⟩ := RS.at_ (h1_.up (le11.trans le18)) hin24
   refine val (x_ia (sA rfl hA23) rfl sle25 hin24) ?_
   obtain ⟨A25, c26, h27, hc28⟩ := At.sl h22
   refine val (x_ldc rfl (hc28 _ hO.sub) one61) ?_
   refine val (x_len rfl underlying61) ?_
   refine val (x_eql rfl rfl) ?_
   refine val (x_assign (.bool (((at0 p0.Holders p1).length : Int) == 1)) rfl) ?_
   refine nil (test rfl hm0 ?_ ?_)
   ·intro hb29 hm0
    refine seq (region (val (x_lds 0 [(.int .i64 p0.Epoch), (.slice A1_ p0.Holders.length c1_)] hO rfl rfl agg27 rfl rfl) ?_))
    refine o_sts 2 [(.int .i64 p0.Epoch), (.slice A1_ p0.Holders.length c1_)] hO rfl rfl rfl siz27 rfl (Nat.le_of_ble_eq_true rfl) (by simp [Value.oneCell', vs]) ?_
    intro w30 hO
    refine val (x_assign (.int .i64 7) rfl) ?_
    refine nil (W.ret ?_)
    obtain rfl := sj hm0
    exact ⟨[(.agg #[(.int .i64 p0.Epoch), (.slice A1_ p0.Holders.length c1_)]), (.int .i64 7)], ⟨⟨_, rfl, hO.ldBlk 2 rfl agg27 rfl rfl⟩, rfl, trivial⟩, H16, _, ⟨A1_, c1_, rfl, (h1_.up (le11.trans le18))⟩, hO⟩
   ·intro hb29 hm0
    refine skip (seq ?_)
    obtain ⟨H31, le32, h33, hO⟩ := hO.freezeBlk (en := (eInt .i64)) (x := p2) 1 rfl rfl
    have hO := hO.pick [(0, .blk g1 [(.int .i64 p0.Epoch), (.slice A1_ p0.Holders.length c1_)] 27), (2, .blk g5 [(.int .i64 0), (.slice none 0 0)] 27)] ⟨rfl, rfl, trivial⟩
    refine W.draw (SD w0 H0 [] H31 [(0, .blk g1 [(.int .i64 p0.Epoch), (.slice A1_ p0.Holders.length c1_)] 27), (2, .blk g5 [(.int .i64 0), (.slice none 0 0)] 27)]) (fun i => ([11, 12] : List Nat).contains i) mixed 13 rfl _ rfl ?_
    intro w34 hh1 hh2 hh3 hh4; have hO := hO.same hh1 hh2 hh3 hh4; clear hh1 hh2 hh3 hh4
    have hS : SD w0 H0 [] H31 [(0, .blk g1 [(.int .i64 p0.Epoch), (.slice A1_ p0.Holders.length c1_)] 27), (2, .blk g5 [(.int .i64 0), (.slice none 0 0)] 27)] w34 := ⟨_, _, Le.refl _, hO, ⟨rfl, rfl, trivial⟩⟩
    refine take (i := 0) rfl (by kernel_rfl) (fun w hS => x_ldsD 0 [(.int .i64 p0.Epoch), (.slice A1_ p0.Holders.length c1_)] hS rfl rfl agg27 rfl rfl) hS ?_
    refine take (i := 1) rfl (by kernel_rfl) (fun w hS => x_move (.int .i64 p1) rfl) hS ?_
    refine take (i := 2) rfl (by kernel_rfl) (fun w hS => x_fa rfl fo27_1) hS ?_
    refine take (i := 3) rfl (by kernel_rfl) (fun w hS => x_ldD 0 (.slice A1_ p0.Holders.length c1_) hS rfl rfl rfl one25) hS ?_
    refine take (i := 4) rfl (by kernel_rfl) (fun w hS => x_move (.int .i64 p1) rfl) hS ?_
    obtain ⟨hin38, hm0⟩ := chk hm0
    obtain ⟨a35, h36, hA37⟩ := RS.at_ (h1_.up (le11.trans (le18.trans le32))) hin38
    refine take (i := 5) rfl (by kernel_rfl) (fun w hS => x_ia (sA rfl hA37) rfl sle25 hin38) hS ?_
    obtain ⟨A39, c40, h41, hc42⟩ := At.sl h36
    refine take (i := 6) rfl (by kernel_rfl) (fun w hS => x_ldc rfl (hc42 _ hS.sub) one61) hS ?_
    refine take (i := 8) rfl (by kernel_rfl) (fun w hS => x_fun [(.pointer (some (⟨g3, 0, none⟩)))] rfl) hS ?_
    refine WA.only (i := 7) (by kernel_rfl) rfl ?_
    obtain ⟨t43, ht44, hm0⟩ := bindSome hm0
    refine o_callO hO go113 (slices_Clone_int_ok hO.sub h41 ht44) rfl ?_
    rintro _ H45 O53 w46 le47 ⟨A48, c49, cs50, rfl, hr51, hk52⟩ hO'
    have hO := hO.callRow hO' 3 0 _ hk52; clear hO'
    have hS : SD w0 H0 [] H31 [(0, .blk g1 [(.int .i64 p0.Epoch), (.slice A1_ p0.Holders.length c1_)] 27), (2, .blk g5 [(.int .i64 0), (.slice none 0 0)] 27)] _ := ⟨_, _, le47, hO, ⟨rfl, rfl, trivial⟩⟩
    refine nil ⟨fun _ => hS, ?_⟩
    refine WA.only (i := 9) (by kernel_rfl) rfl ?_
    obtain ⟨t54, ht55, hm0⟩ := bindSome hm0
    refine o_callM (args := [(.slice A48 t43.length c49), (.func (.func 149) #[] #[(.pointer (some (⟨g3, 0, none⟩)))])]) 3 hO rfl go148 (slices_DeleteFunc_int_place_Retire_1_ok (hO.enter 3 rfl) hr51 (h33.up le47) ht55) rfl ?_
    rintro _ H56 O59 w57 le58 ⟨A60, c61, cs62, rfl, hr63, hk64⟩ hO; rw [hk64] at hO
    have hS : SD w0 H0 [] H31 [(0, .blk g1 [(.int .i64 p0.Epoch), (.slice A1_ p0.Holders.length c1_)] 27), (2, .blk g5 [(.int .i64 0), (.slice none 0 0)] 27)] _ := ⟨_, _, (le47.trans le58), hO, ⟨rfl, rfl, trivial⟩⟩
    refine nil ⟨fun _ => hS, ?_⟩
    refine WA.only (i := 10) (by kernel_rfl) rfl ?_
    obtain ⟨H66, le67, h68, hO⟩ := hO.freezeRow (en := (eInt .i64)) 3 rfl rfl rfl hr63
    obtain ⟨t69, ht70, hm0⟩ := bindSome hm0
    refine o_call hO go147 (place_turned_ok hO.sub (h1_.up (le11.trans (le18.trans (le32.trans (le47.trans (le58.trans le67)))))) h68 ht70) rfl ?_
    rintro _ H71 w72 le73 ⟨A74, c75, rfl, h76⟩ hO
    have hS : SD w0 H0 [] H31 [(0, .blk g1 [(.int .i64 p0.Epoch), (.slice A1_ p0.Holders.length c1_)] 27), (2, .blk g5 [(.int .i64 0), (.slice none 0 0)] 27)] _ := ⟨_, _, (le47.trans (le58.trans (le67.trans le73))), hO, ⟨rfl, rfl, trivial⟩⟩
    refine nil ⟨fun _ => hS, ?_⟩
    refine WA.only (i := 11) (by kernel_rfl) rfl ?_
    refine o_sts 2 [(.int .i64 t69.Epoch), (.slice A74 t69.Holders.length c75)] hO rfl rfl rfl siz27 rfl (Nat.le_of_ble_eq_true rfl) (by simp [Value.oneCell', vs]) ?_
    intro w77 hO
    refine nil ⟨fun h => absurd h (by decide), ?_⟩
    refine WA.only (i := 12) (by kernel_rfl) rfl ?_
    refine val (x_assign (.int .i64 0) rfl) ?_
    refine nil ⟨fun h => absurd h (by decide), ?_⟩
    refine WA.done (by kernel_rfl) ?_
    refine W.ret ?_
    obtain rfl := sj hm0
    exact ⟨[(.agg #[(.int .i64 t69.Epoch), (.slice A74 t69.Holders.length c75)]), (.int .i64 0)], ⟨⟨_, rfl, hO.ldBlk 2 rfl agg27 rfl rfl⟩, rfl, trivial⟩, H71, _, ⟨A74, c75, rfl, h76⟩, hO⟩
theorem fleet_Fleet_Retire_ok {w0 : World} {H0 : IHeap} {p0 : FleetFleet} {p1 : Int} {p2 : Int}  {g1_ : Nat} {cs2_ : List Value} {A4_ : Option Addr} {c5_ : Nat} {cs6_ : List Value} {A8_ : Option Addr} {c9_ : Nat} {cs10_ : List Value} {M : List Nat} (hO : St w0 H0 M H0 (ol [(0, .blk g1_ cs2_ 93), (1, .row A4_ c5_ 61 (eSl (eInt .i64)).size p0.answers.length cs6_), (2, .row A8_ c9_ 4 eBool.size p0.answered.length cs10_)]) w0) (h3_ : Enc.rep (eFleetFleet (.slice A4_ p0.answers.length c5_) (.slice A8_ p0.answered.length c9_)) H0 cs2_ p0) (h7_ : Rows (eSl (eInt .i64)) H0 cs6_ p0.answers) (h11_ : Rows eBool H0 cs10_ p0.answered) {res : FleetFleet × Int} (hm0 : fleet_Fleet_Retire p0 p1 p2 = some res) :
  OkM prog 70 [(.pointer (some ⟨g1_, 0, none⟩)), (.int .i64 p1), (.int .i64 p2)].toArray w0 H0 M (fun H' O' v => ∃ (cs1 : List Value) (A1_0 : Option Addr) (c1_0 : Nat) (cs1_0 : List Value) (A1_1 : Option Addr) (c1_1 : Nat) (cs1_1 : List Value), v = (.int .i64 res.2) ∧ Enc.rep (eFleetFleet (.slice A1_0 res.1.answers.length c1_0) (.slice A1_1 res.1.answered.length c1_1)) H' cs1 res.1 ∧ Rows (eSl (eInt .i64)) H' cs1_0 res.1.answers ∧ Rows eBool H' cs1_1 res.1.answered ∧ O' 0 = some (.blk g1_ cs1 93) ∧ O' 1 = some (.row A1_0 c1_0 61 (eSl (eInt .i64)).size res.1.answers.length cs1_0) ∧ O' 2 = some (.row A1_1 c1_1 4 eBool.size res.1.answered.length cs1_1)) := by
 unfold fleet_Fleet_Retire at hm0
 refine (okM_of_W Tryz.func70 rfl Tryz.ntmps70 (rs := [.tmp 6]) rfl rfl ?_)
 refine seq (region (val (x_assign (.int .i64 0) rfl) ?_))
 refine nil (seq (region (val (x_move (.pointer (some ⟨g1_, 0, none⟩)) rfl) ?_)))
 refine val (x_nilCheck rfl) ?_
 refine val (x_fa rfl fo93_1) ?_
 obtain ⟨cs1, hr2, hc3⟩ := lFleetFleet_p.part _ _ _ h3_
 obtain ⟨A4, c5, rfl, h6⟩ := hr2
 refine val (x_lds 0 [(.int .i64 p0.p.Epoch), (.slice A4 p0.p.Holders.length c5)] hO rfl rfl agg27 (take_of_part hc3 rfl) rfl) ?_
 refine val (x_move (.int .i64 p1) rfl) ?_
 refine val (x_move (.int .i64 p2) rfl) ?_
 obtain ⟨t7, ht8, hm0⟩ := bindSome hm0
 refine o_call hO go118 (place_Retire_ok hO.sub h6 ht8) rfl ?_
 rintro _ H9 w10 le11 ⟨A12, c13, rfl, h14⟩ hO
 refine val (x_move (.tuple #[(.agg #[(.int .i64 t7.1.Epoch), (.slice A12 t7.1.Holders.length c13)]), (.int .i64 t7.2)]) rfl) ?_
 refine val (x_extract (.agg #[(.int .i64 t7.1.Epoch), (.slice A12 t7.1.Holders.length c13)]) rfl rfl) ?_
 refine val (x_extract (.int .i64 t7.2) rfl rfl) ?_
 refine o_alloc 3 _ [(.int .i64 0), (.slice none 0 0)] zer27 hO rfl ?_
 intro g15 w16 hO
 refine o_sts 3 [(.int .i64 t7.1.Epoch), (.slice A12 t7.1.Holders.length c13)] hO rfl rfl rfl siz27 rfl (Nat.le_of_ble_eq_true rfl) (by simp [Value.oneCell', vs]) ?_
 intro w17 hO
 refine val (x_assign (.int .i64 t7.2) rfl) ?_
 refine nil (seq (region (val (x_move (.pointer (some ⟨g1_, 0, none⟩)) rfl) ?_)))
 refine val (x_lds 3 [(.int .i64 t7.1.Epoch), (.slice A12 t7.1.Holders.length c13)] hO rfl rfl agg27 rfl rfl) ?_
 refine val (x_nilCheck rfl) ?_
 refine val (x_fa rfl fo93_1) ?_
 refine o_stP 0 (.agg #[(.int .i64 t7.1.Epoch), (.slice A12 t7.1.Holders.length c13)]) hO rfl (Enc.mono _ le11 h3_) lFleetFleet_p rfl rfl rfl ⟨A12, c13, rfl, h14⟩ siz27 ?_
 intro cs18 w19 (hr20 : Enc.rep (eFleetFleet (.slice A4_ p0.answers.length c5_) (.slice A8_ p0.answered.length c9_)) H9 cs18 ({ p0 with p := (⟨t7.1.Epoch, t7.1.Holders⟩ : PlaceMap) } : FleetFleet)) hO
 refine nil (seq (region (val (x_move (.int .i64 t7.2) rfl) ?_)))
 refine val (x_assign (.int .i64 t7.2) rfl) ?_
 refine nil (W.ret ?_)
 obtain rfl := sj hm0
 exact ⟨[(.int .i64 t7.2)], ⟨rfl, trivial⟩, H9, _, ⟨cs18, A4_, c5_, cs6_, A8_, c9_, cs10_, rfl, hr20, (h7_.up le11), (h11_.up le11), rfl, rfl, rfl⟩, hO.relabel [(0, .blk g1_ cs18 93), (1, .row A4_ c5_ 61 (eSl (eInt .i64)).size p0.answers.length cs6_), (2, .row A8_ c9_ 4 eBool.size p0.answered.length cs10_)] ⟨rfl, rfl, rfl, trivial⟩ (names_nd (ns := [0, 1, 2]) rfl (by decide))⟩
theorem switchboardlaw19_do_ok {w0 : World} {H0 : IHeap} {p0 : FleetFleet} {p1 : Switchboardlaw19Act}  {g1_ : Nat} {cs2_ : List Value} {A4_ : Option Addr} {c5_ : Nat} {cs6_ : List Value} {A8_ : Option Addr} {c9_ : Nat} {cs10_ : List Value} {M : List Nat} (hO : St w0 H0 M H0 (ol [(0, .blk g1_ cs2_ 93), (1, .row A4_ c5_ 61 (eSl (eInt .i64)).size p0.answers.length cs6_), (2, .row A8_ c9_ 4 eBool.size p0.answered.length cs10_)]) w0) (h3_ : Enc.rep (eFleetFleet (.slice A4_ p0.answers.length c5_) (.slice A8_ p0.answered.length c9_)) H0 cs2_ p0) (h7_ : Rows (eSl (eInt .i64)) H0 cs6_ p0.answers) (h11_ : Rows eBool H0 cs10_ p0.answered) {res : FleetFleet} (hm0 : switchboardlaw19_do p0 p1 = some res) :
  OkM prog 27 [(.pointer (some ⟨g1_, 0, none⟩)), (.agg #[(.int .u8 p1.Kind), (.int .u8 p1.N), (.int .u8 p1.M)])].toArray w0 H0 M (fun H' O' v => ∃ (cs1 : List Value) (A1_0 : Option Addr) (c1_0 : Nat) (cs1_0 : List Value) (A1_1 : Option Addr) (c1_1 : Nat) (cs1_1 : List Value), v = (.tuple #[]) ∧ Enc.rep (eFleetFleet (.slice A1_0 res.answers.length c1_0) (.slice A1_1 res.answered.length c1_1)) H' cs1 res ∧ Rows (eSl (eInt .i64)) H' cs1_0 res.answers ∧ Rows eBool H' cs1_1 res.answered ∧ O' 0 = some (.blk g1_ cs1 93) ∧ O' 1 = some (.row A1_0 c1_0 61 (eSl (eInt .i64)).size res.answers.length cs1_0) ∧ O' 2 = some (.row A1_1 c1_1 4 eBool.size res.answered.length cs1_1)) := by
 unfold switchboardlaw19_do at hm0
 refine (okM_of_W Tryz.func27 rfl Tryz.ntmps27 (rs := []) rfl rfl ?_)
 refine seq (region (o_box 3 [(.int .u8 p1.Kind), (.int .u8 p1.N), (.int .u8 p1.M)] hO rfl ?_))
 intro g1 w2 hO
 refine nil (seq (region (val (x_move (.pointer (some ⟨g1_, 0, none⟩)) rfl) ?_)))
 obtain ⟨t3, ht4, hm0⟩ := bindSome hm0
 refine o_callL (args := [(.pointer (some ⟨g1_, 0, none⟩))]) [(0, .blk g1_ cs2_ 93), (1, .row A4_ c5_ 61 (eSl (eInt .i64)).size p0.answers.length cs6_), (2, .row A8_ c9_ 4 eBool.size p0.answered.length cs10_)] hO ⟨rfl, rfl, rfl, trivial⟩ (names_nd (ns := [0, 1, 2]) rfl (by decide)) go28 (fleet_Fleet_Bag_ok (p0 := p0) (hO.enterL [(0, .blk g1_ cs2_ 93), (1, .row A4_ c5_ 61 (eSl (eInt .i64)).size p0.answers.length cs6_), (2, .row A8_ c9_ 4 eBool.size p0.answered.length cs10_)] ⟨rfl, rfl, rfl, trivial⟩ (names_nd (ns := [0, 1, 2]) rfl (by decide))) h3_ h7_ h11_ ht4) rfl ?_
 rintro _ H5 O8 w6 le7 ⟨cs9, A12, c13, cs14, A17, c18, cs19, A22, c23, rfl, h10, h15, h20, h24, hk11, hk16, hk21⟩ hO
 have hO := hO.named [.blk g1_ cs9 93, .row A12 c13 61 (eSl (eInt .i64)).size t3.1.answers.length cs14, .row A17 c18 4 eBool.size t3.1.answered.length cs19] ⟨hk11, hk16, hk21, trivial⟩
 refine val (x_len rfl underlying55) ?_
 refine val (x_assign (.int .i64 (t3.2.length : Int)) rfl) ?_
 refine nil (seq (region (val (x_assign (.int .i64 0) rfl) ?_)))
 refine nil (seq (seq (region (val (x_move (.int .i64 (t3.2.length : Int)) rfl) ?_))))
 refine val (x_gtr rfl rfl) ?_
 refine nil (test rfl hm0 ?_ ?_)
 ·intro hb25 hm0
  refine region (val (x_fa rfl fo79_1) ?_)
  refine val (x_ld 3 (.int .u8 p1.N) hO rfl rfl rfl one5) ?_
  refine val (x_conv underlying5 underlying3 rfl) ?_
  refine val (x_move (.int .i64 (t3.2.length : Int)) rfl) ?_
  obtain ⟨hz26, hm0⟩ := chk hm0
  refine val (x_rem rfl rfl (nz hz26)) ?_
  refine val (x_assign (.int .i64 (Int.tmod (i64w p1.N) (t3.2.length : Int))) rfl) ?_
  refine nil (seq (region (val (x_fa rfl fo79_0) ?_)))
  refine val (x_ld 3 (.int .u8 p1.Kind) hO rfl rfl rfl one5) ?_
  refine val (x_rem rfl rfl rfl) ?_
  refine nil (W.block ?_)
  refine seq (region (val (x_eql rfl rfl) ?_))
  refine val (x_assign (.bool ((Int.tmod p1.Kind 6) == 0)) rfl) ?_
  refine nil (test rfl hm0 ?_ ?_)
  ·intro hb27 hm0
   refine region (val (x_move (.pointer (some ⟨g1_, 0, none⟩)) rfl) ?_)
   obtain ⟨t28, ht29, hm0⟩ := bindSome hm0
   refine o_callL (args := [(.pointer (some ⟨g1_, 0, none⟩))]) [(0, .blk g1_ cs9 93), (1, .row A12 c13 61 (eSl (eInt .i64)).size t3.1.answers.length cs14), (2, .row A17 c18 4 eBool.size t3.1.answered.length cs19)] hO ⟨rfl, rfl, rfl, trivial⟩ (names_nd (ns := [0, 1, 2]) rfl (by decide)) go29 (fleet_Fleet_Ask_ok (p0 := t3.1) (hO.enterL [(0, .blk g1_ cs9 93), (1, .row A12 c13 61 (eSl (eInt .i64)).size t3.1.answers.length cs14), (2, .row A17 c18 4 eBool.size t3.1.answered.length cs19)] ⟨rfl, rfl, rfl, trivial⟩ (names_nd (ns := [0, 1, 2]) rfl (by decide))) h10 h15 h20 ht29) rfl ?_
   rintro _ H30 O33 w31 le32 ⟨cs34, A37, c38, cs39, A42, c43, cs44, rfl, h35, h40, h45, hk36, hk41, hk46⟩ hO
   have hO := hO.named [.blk g1_ cs34 93, .row A37 c38 61 (eSl (eInt .i64)).size t28.answers.length cs39, .row A42 c43 4 eBool.size t28.answered.length cs44] ⟨hk36, hk41, hk46, trivial⟩
   refine nil ?_
   obtain rfl := sj hm0
   exact ⟨[], trivial, H30, _, ⟨cs34, A37, c38, cs39, A42, c43, cs44, rfl, h35, h40, h45, rfl, rfl, rfl⟩, hO.relabel [(0, .blk g1_ cs34 93), (1, .row A37 c38 61 (eSl (eInt .i64)).size t28.answers.length cs39), (2, .row A42 c43 4 eBool.size t28.answered.length cs44)] ⟨rfl, rfl, rfl, trivial⟩ (names_nd (ns := [0, 1, 2]) rfl (by decide))⟩
  ·intro hb27 hm0
   refine seq (region (val (x_eql rfl rfl) ?_))
   refine val (x_assign (.bool ((Int.tmod p1.Kind 6) == 1)) rfl) ?_
   refine nil (test rfl hm0 ?_ ?_)
   ·intro hb47 hm0
    refine region (val (x_move (.pointer (some ⟨g1_, 0, none⟩)) rfl) ?_)
    refine val (x_move (.int .i64 (Int.tmod (i64w p1.N) (t3.2.length : Int))) rfl) ?_
    obtain ⟨t48, ht49, hm0⟩ := bindSome hm0
    refine o_callL (args := [(.pointer (some ⟨g1_, 0, none⟩)), (.int .i64 (Int.tmod (i64w p1.N) (t3.2.length : Int)))]) [(0, .blk g1_ cs9 93), (1, .row A12 c13 61 (eSl (eInt .i64)).size t3.1.answers.length cs14), (2, .row A17 c18 4 eBool.size t3.1.answered.length cs19)] hO ⟨rfl, rfl, rfl, trivial⟩ (names_nd (ns := [0, 1, 2]) rfl (by decide)) go14 (fleet_Fleet_Deliver_ok (p0 := t3.1) (p1 := Int.tmod (i64w p1.N) (t3.2.length : Int)) (hO.enterL [(0, .blk g1_ cs9 93), (1, .row A12 c13 61 (eSl (eInt .i64)).size t3.1.answers.length cs14), (2, .row A17 c18 4 eBool.size t3.1.answered.length cs19)] ⟨rfl, rfl, rfl, trivial⟩ (names_nd (ns := [0, 1, 2]) rfl (by decide))) h10 h15 h20 ht49) rfl ?_
    rintro _ H50 O53 w51 le52 ⟨cs54, A57, c58, cs59, A62, c63, cs64, rfl, h55, h60, h65, hk56, hk61, hk66⟩ hO
    have hO := hO.named [.blk g1_ cs54 93, .row A57 c58 61 (eSl (eInt .i64)).size t48.1.answers.length cs59, .row A62 c63 4 eBool.size t48.1.answered.length cs64] ⟨hk56, hk61, hk66, trivial⟩
    refine nil ?_
    obtain rfl := sj hm0
    exact ⟨[], trivial, H50, _, ⟨cs54, A57, c58, cs59, A62, c63, cs64, rfl, h55, h60, h65, rfl, rfl, rfl⟩, hO.relabel [(0, .blk g1_ cs54 93), (1, .row A57 c58 61 (eSl (eInt .i64)).size t48.1.answers.length cs59), (2, .row A62 c63 4 eBool.size t48.1.answered.length cs64)] ⟨rfl, rfl, rfl, trivial⟩ (names_nd (ns := [0, 1, 2]) rfl (by decide))⟩
   ·intro hb47 hm0
    refine seq (region (val (x_eql rfl rfl) ?_))
    refine val (x_assign (.bool ((Int.tmod p1.Kind 6) == 2)) rfl) ?_
    refine nil (test rfl hm0 ?_ ?_)
    ·intro hb67 hm0
     refine region (val (x_move (.pointer (some ⟨g1_, 0, none⟩)) rfl) ?_)
     refine val (x_move (.int .i64 (Int.tmod (i64w p1.N) (t3.2.length : Int))) rfl) ?_
     obtain ⟨t68, ht69, hm0⟩ := bindSome hm0
     refine o_callL (args := [(.pointer (some ⟨g1_, 0, none⟩)), (.int .i64 (Int.tmod (i64w p1.N) (t3.2.length : Int)))]) [(0, .blk g1_ cs9 93), (1, .row A12 c13 61 (eSl (eInt .i64)).size t3.1.answers.length cs14), (2, .row A17 c18 4 eBool.size t3.1.answered.length cs19)] hO ⟨rfl, rfl, rfl, trivial⟩ (names_nd (ns := [0, 1, 2]) rfl (by decide)) go33 (fleet_Fleet_Drop_ok (p0 := t3.1) (p1 := Int.tmod (i64w p1.N) (t3.2.length : Int)) (hO.enterL [(0, .blk g1_ cs9 93), (1, .row A12 c13 61 (eSl (eInt .i64)).size t3.1.answers.length cs14), (2, .row A17 c18 4 eBool.size t3.1.answered.length cs19)] ⟨rfl, rfl, rfl, trivial⟩ (names_nd (ns := [0, 1, 2]) rfl (by decide))) h10 h15 h20 ht69) rfl ?_
     rintro _ H70 O73 w71 le72 ⟨cs74, A77, c78, cs79, A82, c83, cs84, rfl, h75, h80, h85, hk76, hk81, hk86⟩ hO
     have hO := hO.named [.blk g1_ cs74 93, .row A77 c78 61 (eSl (eInt .i64)).size t68.1.answers.length cs79, .row A82 c83 4 eBool.size t68.1.answered.length cs84] ⟨hk76, hk81, hk86, trivial⟩
     refine nil ?_
     obtain rfl := sj hm0
     exact ⟨[], trivial, H70, _, ⟨cs74, A77, c78, cs79, A82, c83, cs84, rfl, h75, h80, h85, rfl, rfl, rfl⟩, hO.relabel [(0, .blk g1_ cs74 93), (1, .row A77 c78 61 (eSl (eInt .i64)).size t68.1.answers.length cs79), (2, .row A82 c83 4 eBool.size t68.1.answered.length cs84)] ⟨rfl, rfl, rfl, trivial⟩ (names_nd (ns := [0, 1, 2]) rfl (by decide))⟩
    ·intro hb67 hm0
     refine seq (region (val (x_eql rfl rfl) ?_))
     refine val (x_assign (.bool ((Int.tmod p1.Kind 6) == 3)) rfl) ?_
     refine nil (test rfl hm0 ?_ ?_)
     ·intro hb87 hm0
      refine region (val (x_move (.pointer (some ⟨g1_, 0, none⟩)) rfl) ?_)
      refine val (x_move (.int .i64 (Int.tmod (i64w p1.N) (t3.2.length : Int))) rfl) ?_
      obtain ⟨t88, ht89, hm0⟩ := bindSome hm0
      refine o_callL (args := [(.pointer (some ⟨g1_, 0, none⟩)), (.int .i64 (Int.tmod (i64w p1.N) (t3.2.length : Int)))]) [(0, .blk g1_ cs9 93), (1, .row A12 c13 61 (eSl (eInt .i64)).size t3.1.answers.length cs14), (2, .row A17 c18 4 eBool.size t3.1.answered.length cs19)] hO ⟨rfl, rfl, rfl, trivial⟩ (names_nd (ns := [0, 1, 2]) rfl (by decide)) go68 (fleet_Fleet_Twice_ok (p0 := t3.1) (p1 := Int.tmod (i64w p1.N) (t3.2.length : Int)) (hO.enterL [(0, .blk g1_ cs9 93), (1, .row A12 c13 61 (eSl (eInt .i64)).size t3.1.answers.length cs14), (2, .row A17 c18 4 eBool.size t3.1.answered.length cs19)] ⟨rfl, rfl, rfl, trivial⟩ (names_nd (ns := [0, 1, 2]) rfl (by decide))) h10 h15 h20 ht89) rfl ?_
      rintro _ H90 O93 w91 le92 ⟨cs94, A97, c98, cs99, A102, c103, cs104, rfl, h95, h100, h105, hk96, hk101, hk106⟩ hO
      have hO := hO.named [.blk g1_ cs94 93, .row A97 c98 61 (eSl (eInt .i64)).size t88.1.answers.length cs99, .row A102 c103 4 eBool.size t88.1.answered.length cs104] ⟨hk96, hk101, hk106, trivial⟩
      refine nil ?_
      obtain rfl := sj hm0
      exact ⟨[], trivial, H90, _, ⟨cs94, A97, c98, cs99, A102, c103, cs104, rfl, h95, h100, h105, rfl, rfl, rfl⟩, hO.relabel [(0, .blk g1_ cs94 93), (1, .row A97 c98 61 (eSl (eInt .i64)).size t88.1.answers.length cs99), (2, .row A102 c103 4 eBool.size t88.1.answered.length cs104)] ⟨rfl, rfl, rfl, trivial⟩ (names_nd (ns := [0, 1, 2]) rfl (by decide))⟩
     ·intro hb87 hm0
      refine seq (region (val (x_eql rfl rfl) ?_))
      refine val (x_assign (.bool ((Int.tmod p1.Kind 6) == 4)) rfl) ?_
      refine nil (test rfl hm0 ?_ ?_)
      ·intro hb107 hm0
       refine region (val (x_move (.pointer (some ⟨g1_, 0, none⟩)) rfl) ?_)
       refine val (x_fa rfl fo79_1) ?_
       refine val (x_ld 3 (.int .u8 p1.N) hO rfl rfl rfl one5) ?_
       refine val (x_rem rfl rfl rfl) ?_
       refine val (x_conv underlying5 underlying3 rfl) ?_
       refine val (x_fa rfl fo79_2) ?_
       refine val (x_ld 3 (.int .u8 p1.M) hO rfl rfl rfl one5) ?_
       refine val (x_rem rfl rfl rfl) ?_
       refine val (x_conv underlying5 underlying3 rfl) ?_
       obtain ⟨t108, ht109, hm0⟩ := bindSome hm0
       refine o_callL (args := [(.pointer (some ⟨g1_, 0, none⟩)), (.int .i64 (i64w (Int.tmod p1.N 8))), (.int .i64 (i64w (Int.tmod p1.M 5)))]) [(0, .blk g1_ cs9 93), (1, .row A12 c13 61 (eSl (eInt .i64)).size t3.1.answers.length cs14), (2, .row A17 c18 4 eBool.size t3.1.answered.length cs19)] hO ⟨rfl, rfl, rfl, trivial⟩ (names_nd (ns := [0, 1, 2]) rfl (by decide)) go69 (fleet_Fleet_Add_ok (p0 := t3.1) (p1 := i64w (Int.tmod p1.N 8)) (p2 := i64w (Int.tmod p1.M 5)) (hO.enterL [(0, .blk g1_ cs9 93), (1, .row A12 c13 61 (eSl (eInt .i64)).size t3.1.answers.length cs14), (2, .row A17 c18 4 eBool.size t3.1.answered.length cs19)] ⟨rfl, rfl, rfl, trivial⟩ (names_nd (ns := [0, 1, 2]) rfl (by decide))) h10 h15 h20 ht109) rfl ?_
       rintro _ H110 O113 w111 le112 ⟨cs114, A117, c118, cs119, A122, c123, cs124, rfl, h115, h120, h125, hk116, hk121, hk126⟩ hO
       have hO := hO.named [.blk g1_ cs114 93, .row A117 c118 61 (eSl (eInt .i64)).size t108.1.answers.length cs119, .row A122 c123 4 eBool.size t108.1.answered.length cs124] ⟨hk116, hk121, hk126, trivial⟩
       refine nil ?_
       obtain rfl := sj hm0
       exact ⟨[], trivial, H110, _, ⟨cs114, A117, c118, cs119, A122, c123, cs124, rfl, h115, h120, h125, rfl, rfl, rfl⟩, hO.relabel [(0, .blk g1_ cs114 93), (1, .row A117 c118 61 (eSl (eInt .i64)).size t108.1.answers.length cs119), (2, .row A122 c123 4 eBool.size t108.1.answered.length cs124)] ⟨rfl, rfl, rfl, trivial⟩ (names_nd (ns := [0, 1, 2]) rfl (by decide))⟩
      ·intro hb107 hm0
       refine seq (region (val (x_eql rfl rfl) ?_))
       refine val (x_assign (.bool ((Int.tmod p1.Kind 6) == 5)) rfl) ?_
       refine nil (test rfl hm0 ?_ ?_)
       ·intro hb127 hm0
        refine region (val (x_move (.pointer (some ⟨g1_, 0, none⟩)) rfl) ?_)
        refine val (x_fa rfl fo79_1) ?_
        refine val (x_ld 3 (.int .u8 p1.N) hO rfl rfl rfl one5) ?_
        refine val (x_rem rfl rfl rfl) ?_
        refine val (x_conv underlying5 underlying3 rfl) ?_
        refine val (x_fa rfl fo79_2) ?_
        refine val (x_ld 3 (.int .u8 p1.M) hO rfl rfl rfl one5) ?_
        refine val (x_rem rfl rfl rfl) ?_
        refine val (x_conv underlying5 underlying3 rfl) ?_
        obtain ⟨t128, ht129, hm0⟩ := bindSome hm0
        refine o_callL (args := [(.pointer (some ⟨g1_, 0, none⟩)), (.int .i64 (i64w (Int.tmod p1.N 8))), (.int .i64 (i64w (Int.tmod p1.M 5)))]) [(0, .blk g1_ cs9 93), (1, .row A12 c13 61 (eSl (eInt .i64)).size t3.1.answers.length cs14), (2, .row A17 c18 4 eBool.size t3.1.answered.length cs19)] hO ⟨rfl, rfl, rfl, trivial⟩ (names_nd (ns := [0, 1, 2]) rfl (by decide)) go70 (fleet_Fleet_Retire_ok (p0 := t3.1) (p1 := i64w (Int.tmod p1.N 8)) (p2 := i64w (Int.tmod p1.M 5)) (hO.enterL [(0, .blk g1_ cs9 93), (1, .row A12 c13 61 (eSl (eInt .i64)).size t3.1.answers.length cs14), (2, .row A17 c18 4 eBool.size t3.1.answered.length cs19)] ⟨rfl, rfl, rfl, trivial⟩ (names_nd (ns := [0, 1, 2]) rfl (by decide))) h10 h15 h20 ht129) rfl ?_
        rintro _ H130 O133 w131 le132 ⟨cs134, A137, c138, cs139, A142, c143, cs144, rfl, h135, h140, h145, hk136, hk141, hk146⟩ hO
        have hO := hO.named [.blk g1_ cs134 93, .row A137 c138 61 (eSl (eInt .i64)).size t128.1.answers.length cs139, .row A142 c143 4 eBool.size t128.1.answered.length cs144] ⟨hk136, hk141, hk146, trivial⟩
        refine nil ?_
        obtain rfl := sj hm0
        exact ⟨[], trivial, H130, _, ⟨cs134, A137, c138, cs139, A142, c143, cs144, rfl, h135, h140, h145, rfl, rfl, rfl⟩, hO.relabel [(0, .blk g1_ cs134 93), (1, .row A137 c138 61 (eSl (eInt .i64)).size t128.1.answers.length cs139), (2, .row A142 c143 4 eBool.size t128.1.answered.length cs144)] ⟨rfl, rfl, rfl, trivial⟩ (names_nd (ns := [0, 1, 2]) rfl (by decide))⟩
       ·intro hb127 hm0
        refine skip ?_
        obtain rfl := sj hm0
        exact ⟨[], trivial, H5, _, ⟨cs9, A12, c13, cs14, A17, c18, cs19, rfl, h10, h15, h20, rfl, rfl, rfl⟩, hO.relabel [(0, .blk g1_ cs9 93), (1, .row A12 c13 61 (eSl (eInt .i64)).size t3.1.answers.length cs14), (2, .row A17 c18 4 eBool.size t3.1.answered.length cs19)] ⟨rfl, rfl, rfl, trivial⟩ (names_nd (ns := [0, 1, 2]) rfl (by decide))⟩
 ·intro hb25 hm0
  refine skip (seq (region (val (x_fa rfl fo79_0) ?_)))
  refine val (x_ld 3 (.int .u8 p1.Kind) hO rfl rfl rfl one5) ?_
  refine val (x_rem rfl rfl rfl) ?_
  refine nil (W.block ?_)
  refine seq (region (val (x_eql rfl rfl) ?_))
  refine val (x_assign (.bool ((Int.tmod p1.Kind 6) == 0)) rfl) ?_
  refine nil (test rfl hm0 ?_ ?_)
  ·intro hb147 hm0
   refine region (val (x_move (.pointer (some ⟨g1_, 0, none⟩)) rfl) ?_)
   obtain ⟨t148, ht149, hm0⟩ := bindSome hm0
   refine o_callL (args := [(.pointer (some ⟨g1_, 0, none⟩))]) [(0, .blk g1_ cs9 93), (1, .row A12 c13 61 (eSl (eInt .i64)).size t3.1.answers.length cs14), (2, .row A17 c18 4 eBool.size t3.1.answered.length cs19)] hO ⟨rfl, rfl, rfl, trivial⟩ (names_nd (ns := [0, 1, 2]) rfl (by decide)) go29 (fleet_Fleet_Ask_ok (p0 := t3.1) (hO.enterL [(0, .blk g1_ cs9 93), (1, .row A12 c13 61 (eSl (eInt .i64)).size t3.1.answers.length cs14), (2, .row A17 c18 4 eBool.size t3.1.answered.length cs19)] ⟨rfl, rfl, rfl, trivial⟩ (names_nd (ns := [0, 1, 2]) rfl (by decide))) h10 h15 h20 ht149) rfl ?_
   rintro _ H150 O153 w151 le152 ⟨cs154, A157, c158, cs159, A162, c163, cs164, rfl, h155, h160, h165, hk156, hk161, hk166⟩ hO
   have hO := hO.named [.blk g1_ cs154 93, .row A157 c158 61 (eSl (eInt .i64)).size t148.answers.length cs159, .row A162 c163 4 eBool.size t148.answered.length cs164] ⟨hk156, hk161, hk166, trivial⟩
   refine nil ?_
   obtain rfl := sj hm0
   exact ⟨[], trivial, H150, _, ⟨cs154, A157, c158, cs159, A162, c163, cs164, rfl, h155, h160, h165, rfl, rfl, rfl⟩, hO.relabel [(0, .blk g1_ cs154 93), (1, .row A157 c158 61 (eSl (eInt .i64)).size t148.answers.length cs159), (2, .row A162 c163 4 eBool.size t148.answered.length cs164)] ⟨rfl, rfl, rfl, trivial⟩ (names_nd (ns := [0, 1, 2]) rfl (by decide))⟩
  ·intro hb147 hm0
   refine seq (region (val (x_eql rfl rfl) ?_))
   refine val (x_assign (.bool ((Int.tmod p1.Kind 6) == 1)) rfl) ?_
   refine nil (test rfl hm0 ?_ ?_)
   ·intro hb167 hm0
    refine region (val (x_move (.pointer (some ⟨g1_, 0, none⟩)) rfl) ?_)
    refine val (x_move (.int .i64 0) rfl) ?_
    obtain ⟨t168, ht169, hm0⟩ := bindSome hm0
    refine o_callL (args := [(.pointer (some ⟨g1_, 0, none⟩)), (.int .i64 0)]) [(0, .blk g1_ cs9 93), (1, .row A12 c13 61 (eSl (eInt .i64)).size t3.1.answers.length cs14), (2, .row A17 c18 4 eBool.size t3.1.answered.length cs19)] hO ⟨rfl, rfl, rfl, trivial⟩ (names_nd (ns := [0, 1, 2]) rfl (by decide)) go14 (fleet_Fleet_Deliver_ok (p0 := t3.1) (p1 := 0) (hO.enterL [(0, .blk g1_ cs9 93), (1, .row A12 c13 61 (eSl (eInt .i64)).size t3.1.answers.length cs14), (2, .row A17 c18 4 eBool.size t3.1.answered.length cs19)] ⟨rfl, rfl, rfl, trivial⟩ (names_nd (ns := [0, 1, 2]) rfl (by decide))) h10 h15 h20 ht169) rfl ?_
    rintro _ H170 O173 w171 le172 ⟨cs174, A177, c178, cs179, A182, c183, cs184, rfl, h175, h180, h185, hk176, hk181, hk186⟩ hO
    have hO := hO.named [.blk g1_ cs174 93, .row A177 c178 61 (eSl (eInt .i64)).size t168.1.answers.length cs179, .row A182 c183 4 eBool.size t168.1.answered.length cs184] ⟨hk176, hk181, hk186, trivial⟩
    refine nil ?_
    obtain rfl := sj hm0
    exact ⟨[], trivial, H170, _, ⟨cs174, A177, c178, cs179, A182, c183, cs184, rfl, h175, h180, h185, rfl, rfl, rfl⟩, hO.relabel [(0, .blk g1_ cs174 93), (1, .row A177 c178 61 (eSl (eInt .i64)).size t168.1.answers.length cs179), (2, .row A182 c183 4 eBool.size t168.1.answered.length cs184)] ⟨rfl, rfl, rfl, trivial⟩ (names_nd (ns := [0, 1, 2]) rfl (by decide))⟩
   ·intro hb167 hm0
    refine seq (region (val (x_eql rfl rfl) ?_))
    refine val (x_assign (.bool ((Int.tmod p1.Kind 6) == 2)) rfl) ?_
    refine nil (test rfl hm0 ?_ ?_)
    ·intro hb187 hm0
     refine region (val (x_move (.pointer (some ⟨g1_, 0, none⟩)) rfl) ?_)
     refine val (x_move (.int .i64 0) rfl) ?_
     obtain ⟨t188, ht189, hm0⟩ := bindSome hm0
     refine o_callL (args := [(.pointer (some ⟨g1_, 0, none⟩)), (.int .i64 0)]) [(0, .blk g1_ cs9 93), (1, .row A12 c13 61 (eSl (eInt .i64)).size t3.1.answers.length cs14), (2, .row A17 c18 4 eBool.size t3.1.answered.length cs19)] hO ⟨rfl, rfl, rfl, trivial⟩ (names_nd (ns := [0, 1, 2]) rfl (by decide)) go33 (fleet_Fleet_Drop_ok (p0 := t3.1) (p1 := 0) (hO.enterL [(0, .blk g1_ cs9 93), (1, .row A12 c13 61 (eSl (eInt .i64)).size t3.1.answers.length cs14), (2, .row A17 c18 4 eBool.size t3.1.answered.length cs19)] ⟨rfl, rfl, rfl, trivial⟩ (names_nd (ns := [0, 1, 2]) rfl (by decide))) h10 h15 h20 ht189) rfl ?_
     rintro _ H190 O193 w191 le192 ⟨cs194, A197, c198, cs199, A202, c203, cs204, rfl, h195, h200, h205, hk196, hk201, hk206⟩ hO
     have hO := hO.named [.blk g1_ cs194 93, .row A197 c198 61 (eSl (eInt .i64)).size t188.1.answers.length cs199, .row A202 c203 4 eBool.size t188.1.answered.length cs204] ⟨hk196, hk201, hk206, trivial⟩
     refine nil ?_
     obtain rfl := sj hm0
     exact ⟨[], trivial, H190, _, ⟨cs194, A197, c198, cs199, A202, c203, cs204, rfl, h195, h200, h205, rfl, rfl, rfl⟩, hO.relabel [(0, .blk g1_ cs194 93), (1, .row A197 c198 61 (eSl (eInt .i64)).size t188.1.answers.length cs199), (2, .row A202 c203 4 eBool.size t188.1.answered.length cs204)] ⟨rfl, rfl, rfl, trivial⟩ (names_nd (ns := [0, 1, 2]) rfl (by decide))⟩
    ·intro hb187 hm0
     refine seq (region (val (x_eql rfl rfl) ?_))
     refine val (x_assign (.bool ((Int.tmod p1.Kind 6) == 3)) rfl) ?_
     refine nil (test rfl hm0 ?_ ?_)
     ·intro hb207 hm0
      refine region (val (x_move (.pointer (some ⟨g1_, 0, none⟩)) rfl) ?_)
      refine val (x_move (.int .i64 0) rfl) ?_
      obtain ⟨t208, ht209, hm0⟩ := bindSome hm0
      refine o_callL (args := [(.pointer (some ⟨g1_, 0, none⟩)), (.int .i64 0)]) [(0, .blk g1_ cs9 93), (1, .row A12 c13 61 (eSl (eInt .i64)).size t3.1.answers.length cs14), (2, .row A17 c18 4 eBool.size t3.1.answered.length cs19)] hO ⟨rfl, rfl, rfl, trivial⟩ (names_nd (ns := [0, 1, 2]) rfl (by decide)) go68 (fleet_Fleet_Twice_ok (p0 := t3.1) (p1 := 0) (hO.enterL [(0, .blk g1_ cs9 93), (1, .row A12 c13 61 (eSl (eInt .i64)).size t3.1.answers.length cs14), (2, .row A17 c18 4 eBool.size t3.1.answered.length cs19)] ⟨rfl, rfl, rfl, trivial⟩ (names_nd (ns := [0, 1, 2]) rfl (by decide))) h10 h15 h20 ht209) rfl ?_
      rintro _ H210 O213 w211 le212 ⟨cs214, A217, c218, cs219, A222, c223, cs224, rfl, h215, h220, h225, hk216, hk221, hk226⟩ hO
      have hO := hO.named [.blk g1_ cs214 93, .row A217 c218 61 (eSl (eInt .i64)).size t208.1.answers.length cs219, .row A222 c223 4 eBool.size t208.1.answered.length cs224] ⟨hk216, hk221, hk226, trivial⟩
      refine nil ?_
      obtain rfl := sj hm0
      exact ⟨[], trivial, H210, _, ⟨cs214, A217, c218, cs219, A222, c223, cs224, rfl, h215, h220, h225, rfl, rfl, rfl⟩, hO.relabel [(0, .blk g1_ cs214 93), (1, .row A217 c218 61 (eSl (eInt .i64)).size t208.1.answers.length cs219), (2, .row A222 c223 4 eBool.size t208.1.answered.length cs224)] ⟨rfl, rfl, rfl, trivial⟩ (names_nd (ns := [0, 1, 2]) rfl (by decide))⟩
     ·intro hb207 hm0
      refine seq (region (val (x_eql rfl rfl) ?_))
      refine val (x_assign (.bool ((Int.tmod p1.Kind 6) == 4)) rfl) ?_
      refine nil (test rfl hm0 ?_ ?_)
      ·intro hb227 hm0
       refine region (val (x_move (.pointer (some ⟨g1_, 0, none⟩)) rfl) ?_)
       refine val (x_fa rfl fo79_1) ?_
       refine val (x_ld 3 (.int .u8 p1.N) hO rfl rfl rfl one5) ?_
       refine val (x_rem rfl rfl rfl) ?_
       refine val (x_conv underlying5 underlying3 rfl) ?_
       refine val (x_fa rfl fo79_2) ?_
       refine val (x_ld 3 (.int .u8 p1.M) hO rfl rfl rfl one5) ?_
       refine val (x_rem rfl rfl rfl) ?_
       refine val (x_conv underlying5 underlying3 rfl) ?_
       obtain ⟨t228, ht229, hm0⟩ := bindSome hm0
       refine o_callL (args := [(.pointer (some ⟨g1_, 0, none⟩)), (.int .i64 (i64w (Int.tmod p1.N 8))), (.int .i64 (i64w (Int.tmod p1.M 5)))]) [(0, .blk g1_ cs9 93), (1, .row A12 c13 61 (eSl (eInt .i64)).size t3.1.answers.length cs14), (2, .row A17 c18 4 eBool.size t3.1.answered.length cs19)] hO ⟨rfl, rfl, rfl, trivial⟩ (names_nd (ns := [0, 1, 2]) rfl (by decide)) go69 (fleet_Fleet_Add_ok (p0 := t3.1) (p1 := i64w (Int.tmod p1.N 8)) (p2 := i64w (Int.tmod p1.M 5)) (hO.enterL [(0, .blk g1_ cs9 93), (1, .row A12 c13 61 (eSl (eInt .i64)).size t3.1.answers.length cs14), (2, .row A17 c18 4 eBool.size t3.1.answered.length cs19)] ⟨rfl, rfl, rfl, trivial⟩ (names_nd (ns := [0, 1, 2]) rfl (by decide))) h10 h15 h20 ht229) rfl ?_
       rintro _ H230 O233 w231 le232 ⟨cs234, A237, c238, cs239, A242, c243, cs244, rfl, h235, h240, h245, hk236, hk241, hk246⟩ hO
       have hO := hO.named [.blk g1_ cs234 93, .row A237 c238 61 (eSl (eInt .i64)).size t228.1.answers.length cs239, .row A242 c243 4 eBool.size t228.1.answered.length cs244] ⟨hk236, hk241, hk246, trivial⟩
       refine nil ?_
       obtain rfl := sj hm0
       exact ⟨[], trivial, H230, _, ⟨cs234, A237, c238, cs239, A242, c243, cs244, rfl, h235, h240, h245, rfl, rfl, rfl⟩, hO.relabel [(0, .blk g1_ cs234 93), (1, .row A237 c238 61 (eSl (eInt .i64)).size t228.1.answers.length cs239), (2, .row A242 c243 4 eBool.size t228.1.answered.length cs244)] ⟨rfl, rfl, rfl, trivial⟩ (names_nd (ns := [0, 1, 2]) rfl (by decide))⟩
      ·intro hb227 hm0
       refine seq (region (val (x_eql rfl rfl) ?_))
       refine val (x_assign (.bool ((Int.tmod p1.Kind 6) == 5)) rfl) ?_
       refine nil (test rfl hm0 ?_ ?_)
       ·intro hb247 hm0
        refine region (val (x_move (.pointer (some ⟨g1_, 0, none⟩)) rfl) ?_)
        refine val (x_fa rfl fo79_1) ?_
        refine val (x_ld 3 (.int .u8 p1.N) hO rfl rfl rfl one5) ?_
        refine val (x_rem rfl rfl rfl) ?_
        refine val (x_conv underlying5 underlying3 rfl) ?_
        refine val (x_fa rfl fo79_2) ?_
        refine val (x_ld 3 (.int .u8 p1.M) hO rfl rfl rfl one5) ?_
        refine val (x_rem rfl rfl rfl) ?_
        refine val (x_conv underlying5 underlying3 rfl) ?_
        obtain ⟨t248, ht249, hm0⟩ := bindSome hm0
        refine o_callL (args := [(.pointer (some ⟨g1_, 0, none⟩)), (.int .i64 (i64w (Int.tmod p1.N 8))), (.int .i64 (i64w (Int.tmod p1.M 5)))]) [(0, .blk g1_ cs9 93), (1, .row A12 c13 61 (eSl (eInt .i64)).size t3.1.answers.length cs14), (2, .row A17 c18 4 eBool.size t3.1.answered.length cs19)] hO ⟨rfl, rfl, rfl, trivial⟩ (names_nd (ns := [0, 1, 2]) rfl (by decide)) go70 (fleet_Fleet_Retire_ok (p0 := t3.1) (p1 := i64w (Int.tmod p1.N 8)) (p2 := i64w (Int.tmod p1.M 5)) (hO.enterL [(0, .blk g1_ cs9 93), (1, .row A12 c13 61 (eSl (eInt .i64)).size t3.1.answers.length cs14), (2, .row A17 c18 4 eBool.size t3.1.answered.length cs19)] ⟨rfl, rfl, rfl, trivial⟩ (names_nd (ns := [0, 1, 2]) rfl (by decide))) h10 h15 h20 ht249) rfl ?_
        rintro _ H250 O253 w251 le252 ⟨cs254, A257, c258, cs259, A262, c263, cs264, rfl, h255, h260, h265, hk256, hk261, hk266⟩ hO
        have hO := hO.named [.blk g1_ cs254 93, .row A257 c258 61 (eSl (eInt .i64)).size t248.1.answers.length cs259, .row A262 c263 4 eBool.size t248.1.answered.length cs264] ⟨hk256, hk261, hk266, trivial⟩
        refine nil ?_
        obtain rfl := sj hm0
        exact ⟨[], trivial, H250, _, ⟨cs254, A257, c258, cs259, A262, c263, cs264, rfl, h255, h260, h265, rfl, rfl, rfl⟩, hO.relabel [(0, .blk g1_ cs254 93), (1, .row A257 c258 61 (eSl (eInt .i64)).size t248.1.answers.length cs259), (2, .row A262 c263 4 eBool.size t248.1.answered.length cs264)] ⟨rfl, rfl, rfl, trivial⟩ (names_nd (ns := [0, 1, 2]) rfl (by decide))⟩
       ·intro hb247 hm0
        refine skip ?_
        obtain rfl := sj hm0
        exact ⟨[], trivial, H5, _, ⟨cs9, A12, c13, cs14, A17, c18, cs19, rfl, h10, h15, h20, rfl, rfl, rfl⟩, hO.relabel [(0, .blk g1_ cs9 93), (1, .row A12 c13 61 (eSl (eInt .i64)).size t3.1.answers.length cs14), (2, .row A17 c18 4 eBool.size t3.1.answered.length cs19)] ⟨rfl, rfl, rfl, trivial⟩ (names_nd (ns := [0, 1, 2]) rfl (by decide))⟩
end Go.Sw

/- The calls compute the mirrors. -/
import Derived.Test.YtahaedoeckgidaaGreatZgF
import Derived.Test.YtahaedoeckgidaaGreatZgC3
import Derived.Test.YtahaedoeckgidaaGreatZgC4
import Derived.Test.YtahaedoeckgidaaGreatZgC10
set_option linter.unusedVariables false
set_option linter.unusedSimpArgs false
set_option maxRecDepth 100000
namespace Go.Sw
open WL (val nil gval yes no)
open W (region test seq skip)
open WA (take)
open Go.Proofs.Tryz
open Go.Proofs
theorem bag_Twice_ok {w0 : World} {H0 : IHeap} (hS : Sub H0 w0) {p0 : List Str} {p1 : Int}  {A1_ : Option Addr} {c1_ : Nat} (h1_ : RS eStr H0 A1_ c1_ p0) {res : (List Str)} (hm0 : bag_Twice p0 p1 = some res) :
  Ok prog 116 [(.slice A1_ p0.length c1_), (.int .i64 p1)].toArray w0 H0 (fun H' v => ∃ (A1 : Option Addr) (c1 : Nat), v = (.slice A1 res.length c1) ∧ RS eStr H' A1 c1 res) := by
 unfold bag_Twice at hm0
 refine ok_of_W Tryz.func116 rfl Tryz.ntmps116 (ts := [4]) rfl rfl rfl ?_
 have hO := St.start hS
 refine seq (region (val (x_assign (.slice none 0 0) rfl) ?_))
 refine nil (seq (seq (region (val (x_move (.int .i64 p1) rfl) ?_))))
 refine val (x_lss rfl rfl) ?_
 refine val (x_move (.bool (decide (p1 < 0))) rfl) ?_
 refine gval rfl rfl (fun hb => x_move (.int .i64 p1) rfl) ?_
 refine gval rfl rfl (fun hb => x_move (.slice A1_ p0.length c1_) rfl) ?_
 refine gval rfl rfl (fun hb => x_len (gv hb) underlying55) ?_
 refine gval rfl rfl (fun hb => x_geq (gv hb) (gv hb)) ?_
 refine val (x_pick rfl (.bool ((decide (p1 < 0)) || (decide ((p0.length : Int) ≤ p1)))) pick_or) ?_
 refine nil (test rfl hm0 ?_ ?_)
 ·intro hb1 hm0
  refine seq (region (val (x_move (.slice A1_ p0.length c1_) rfl) ?_))
  obtain ⟨t2, ht3, hm0⟩ := bindSome hm0
  refine o_callO hO go71 (slices_Clone_string_ok hO.sub h1_ ht3) rfl ?_
  rintro _ H4 O12 w5 le6 ⟨A7, c8, cs9, rfl, hr10, hk11⟩ hO'
  have hO := hO.callRow hO' 0 0 _ hk11; clear hO'
  refine val (x_assign (.slice A7 t2.length c8) rfl) ?_
  refine nil (W.ret ?_)
  obtain ⟨H13, le14, h15, hO⟩ := hO.freezeRow (en := eStr) 0 rfl rfl rfl hr10
  obtain rfl := sj hm0
  exact ⟨H13, ⟨A7, c8, rfl, h15⟩, hO.done⟩
 ·intro hb1 hm0
  refine skip (seq (region (val (x_move (.slice A1_ p0.length c1_) rfl) ?_)))
  refine val (x_move (.slice A1_ p0.length c1_) rfl) ?_
  refine val (x_move (.int .i64 p1) rfl) ?_
  obtain ⟨hin19, hm0⟩ := chk hm0
  obtain ⟨a16, h17, hA18⟩ := RS.at_ h1_ hin19
  refine val (x_ia (sA rfl hA18) rfl sle55 hin19) ?_
  refine val (x_ldc rfl (h17.str _ hO.sub) one9) ?_
  obtain ⟨t20, ht21, hm0⟩ := bindSome hm0
  refine o_call hO go103 (bag_Put_ok hO.sub h1_ ht21) rfl ?_
  rintro _ H22 w23 le24 ⟨A25, c26, rfl, h27⟩ hO
  refine val (x_assign (.slice A25 t20.length c26) rfl) ?_
  refine nil (W.ret ?_)
  obtain rfl := sj hm0
  exact ⟨H22, ⟨A25, c26, rfl, h27⟩, hO.done⟩
theorem fleet_Fleet_Twice_ok {w0 : World} {H0 : IHeap} {p0 : FleetFleet} {p1 : Int}  {g1_ : Nat} {cs2_ : List Value} {A4_ : Option Addr} {c5_ : Nat} {cs6_ : List Value} {A8_ : Option Addr} {c9_ : Nat} {cs10_ : List Value} {M : List Nat} (hO : St w0 H0 M H0 (ol [(0, .blk g1_ cs2_ 93), (1, .row A4_ c5_ 61 (eSl (eInt .i64)).size p0.answers.length cs6_), (2, .row A8_ c9_ 4 eBool.size p0.answered.length cs10_)]) w0) (h3_ : Enc.rep (eFleetFleet (.slice A4_ p0.answers.length c5_) (.slice A8_ p0.answered.length c9_)) H0 cs2_ p0) (h7_ : Rows (eSl (eInt .i64)) H0 cs6_ p0.answers) (h11_ : Rows eBool H0 cs10_ p0.answered) {res : FleetFleet × Int} (hm0 : fleet_Fleet_Twice p0 p1 = some res) :
  OkM prog 68 [(.pointer (some ⟨g1_, 0, none⟩)), (.int .i64 p1)].toArray w0 H0 M (fun H' O' v => ∃ (cs1 : List Value) (A1_0 : Option Addr) (c1_0 : Nat) (cs1_0 : List Value) (A1_1 : Option Addr) (c1_1 : Nat) (cs1_1 : List Value), v = (.int .i64 res.2) ∧ Enc.rep (eFleetFleet (.slice A1_0 res.1.answers.length c1_0) (.slice A1_1 res.1.answered.length c1_1)) H' cs1 res.1 ∧ Rows (eSl (eInt .i64)) H' cs1_0 res.1.answers ∧ Rows eBool H' cs1_1 res.1.answered ∧ O' 0 = some (.blk g1_ cs1 93) ∧ O' 1 = some (.row A1_0 c1_0 61 (eSl (eInt .i64)).size res.1.answers.length cs1_0) ∧ O' 2 = some (.row A1_1 c1_1 4 eBool.size res.1.answered.length cs1_1)) := by
 unfold fleet_Fleet_Twice at hm0
 refine (okM_of_W Tryz.func68 rfl Tryz.ntmps68 (rs := [.tmp 4]) rfl rfl ?_)
 refine seq (region (val (x_assign (.int .i64 0) rfl) ?_))
 refine nil (seq (seq (region (val (x_move (.int .i64 p1) rfl) ?_))))
 refine val (x_lss rfl rfl) ?_
 refine val (x_move (.bool (decide (p1 < 0))) rfl) ?_
 refine gval rfl rfl (fun hb => x_move (.int .i64 p1) rfl) ?_
 refine gval rfl rfl (fun hb => x_move (.pointer (some ⟨g1_, 0, none⟩)) rfl) ?_
 refine gval rfl rfl (fun hb => x_nilCheck (gv hb)) ?_
 refine gval rfl rfl (fun hb => x_fa (gv hb) fo93_3) ?_
 obtain ⟨cs1, hr2, hc3⟩ := lFleetFleet_bag.part _ _ _ h3_
 obtain ⟨A4, c5, rfl, h6⟩ := hr2
 refine gval rfl rfl (fun hb => x_ld 0 (.slice A4 p0.bag.length c5) hO rfl (gv hb) (hc3 0 _ rfl) one55) ?_
 refine gval rfl rfl (fun hb => x_len (gv hb) underlying55) ?_
 refine gval rfl rfl (fun hb => x_geq (gv hb) (gv hb)) ?_
 refine val (x_pick rfl (.bool ((decide (p1 < 0)) || (decide ((p0.bag.length : Int) ≤ p1)))) pick_or) ?_
 refine nil (test rfl hm0 ?_ ?_)
 ·intro hb7 hm0
  refine seq (region (val (x_assign (.int .i64 4) rfl) ?_))
  refine nil (W.ret ?_)
  obtain rfl := sj hm0
  exact ⟨[(.int .i64 4)], ⟨rfl, trivial⟩, H0, _, ⟨cs2_, A4_, c5_, cs6_, A8_, c9_, cs10_, rfl, h3_, h7_, h11_, rfl, rfl, rfl⟩, hO.relabel [(0, .blk g1_ cs2_ 93), (1, .row A4_ c5_ 61 (eSl (eInt .i64)).size p0.answers.length cs6_), (2, .row A8_ c9_ 4 eBool.size p0.answered.length cs10_)] ⟨rfl, rfl, rfl, trivial⟩ (names_nd (ns := [0, 1, 2]) rfl (by decide))⟩
 ·intro hb7 hm0
  refine skip (seq (region (val (x_move (.pointer (some ⟨g1_, 0, none⟩)) rfl) ?_)))
  refine val (x_move (.pointer (some ⟨g1_, 0, none⟩)) rfl) ?_
  refine val (x_nilCheck rfl) ?_
  refine val (x_fa rfl fo93_3) ?_
  obtain ⟨cs8, hr9, hc10⟩ := lFleetFleet_bag.part _ _ _ h3_
  obtain ⟨A11, c12, rfl, h13⟩ := hr9
  refine val (x_ld 0 (.slice A11 p0.bag.length c12) hO rfl rfl (hc10 0 _ rfl) one55) ?_
  refine val (x_move (.int .i64 p1) rfl) ?_
  obtain ⟨t14, ht15, hm0⟩ := bindSome hm0
  refine o_call hO go116 (bag_Twice_ok hO.sub h13 ht15) rfl ?_
  rintro _ H16 w17 le18 ⟨A19, c20, rfl, h21⟩ hO
  refine val (x_nilCheck rfl) ?_
  refine val (x_fa rfl fo93_3) ?_
  refine o_stP 0 (.slice A19 t14.length c20) hO rfl (Enc.mono _ le18 h3_) lFleetFleet_bag rfl rfl rfl ⟨A19, c20, rfl, h21⟩ siz55 ?_
  intro cs22 w23 (hr24 : Enc.rep (eFleetFleet (.slice A4_ p0.answers.length c5_) (.slice A8_ p0.answered.length c9_)) H16 cs22 ({ p0 with bag := t14 } : FleetFleet)) hO
  refine nil (seq (region (val (x_assign (.int .i64 0) rfl) ?_)))
  refine nil (W.ret ?_)
  obtain rfl := sj hm0
  exact ⟨[(.int .i64 0)], ⟨rfl, trivial⟩, H16, _, ⟨cs22, A4_, c5_, cs6_, A8_, c9_, cs10_, rfl, hr24, (h7_.up le18), (h11_.up le18), rfl, rfl, rfl⟩, hO.relabel [(0, .blk g1_ cs22 93), (1, .row A4_ c5_ 61 (eSl (eInt .i64)).size p0.answers.length cs6_), (2, .row A8_ c9_ 4 eBool.size p0.answered.length cs10_)] ⟨rfl, rfl, rfl, trivial⟩ (names_nd (ns := [0, 1, 2]) rfl (by decide))⟩
theorem place_may_ok {w0 : World} {H0 : IHeap} (hS : Sub H0 w0) {p0 : PlaceMap} {p1 : Int} {p2 : Int}  {A1_ : Option Addr} {c1_ : Nat} (h1_ : RS (eSl (eInt .i64)) H0 A1_ c1_ p0.Holders) {res : Bool} (hm0 : place_may p0 p1 p2 = some res) :
  Ok prog 146 [(.agg #[(.int .i64 p0.Epoch), (.slice A1_ p0.Holders.length c1_)]), (.int .i64 p1), (.int .i64 p2)].toArray w0 H0 (fun H' v => v = (.bool res)) := by
 unfold place_may at hm0
 refine ok_of_W Tryz.func146 rfl Tryz.ntmps146 (ts := [6]) rfl rfl rfl ?_
 have hO := St.start hS
 refine seq (region (o_box 0 [(.int .i64 p0.Epoch), (.slice A1_ p0.Holders.length c1_)] hO rfl ?_))
 intro g1 w2 hO
 refine val (x_assign (.bool false) rfl) ?_
 refine nil (seq (region (val (x_lds 0 [(.int .i64 p0.Epoch), (.slice A1_ p0.Holders.length c1_)] hO rfl rfl agg27 rfl rfl) ?_)))
 obtain ⟨t3, ht4, hm0⟩ := bindSome hm0
 refine o_call hO go36 (place_Right_ok hO.sub h1_ ht4) rfl ?_
 rintro _ H5 w6 le7 rfl hO
 refine val (x_move (.bool t3) rfl) ?_
 refine gval rfl rfl (fun hb => x_move (.int .i64 p1) rfl) ?_
 refine gval rfl rfl (fun hb => x_geq (gv hb) rfl) ?_
 refine val (x_pick rfl (.bool (t3 && (decide (0 ≤ p1)))) pick_and) ?_
 refine val (x_move (.bool (t3 && (decide (0 ≤ p1)))) rfl) ?_
 refine gval rfl rfl (fun hb => x_move (.int .i64 p1) rfl) ?_
 refine gval rfl rfl (fun hb => x_fa rfl fo27_1) ?_
 refine gval rfl rfl (fun hb => x_ld 0 (.slice A1_ p0.Holders.length c1_) hO rfl (gv hb) rfl one25) ?_
 refine gval rfl rfl (fun hb => x_len (gv hb) underlying25) ?_
 refine gval rfl rfl (fun hb => x_lss (gv hb) (gv hb)) ?_
 refine val (x_pick rfl (.bool ((t3 && (decide (0 ≤ p1))) && (decide (p1 < (p0.Holders.length : Int))))) pick_and) ?_
 refine val (x_move (.bool ((t3 && (decide (0 ≤ p1))) && (decide (p1 < (p0.Holders.length : Int))))) rfl) ?_
 refine gval rfl rfl (fun hb => x_move (.int .i64 p2) rfl) ?_
 refine gval rfl rfl (fun hb => x_geq (gv hb) rfl) ?_
 refine val (x_pick rfl (.bool (((t3 && (decide (0 ≤ p1))) && (decide (p1 < (p0.Holders.length : Int)))) && (decide (1 ≤ p2)))) pick_and) ?_
 refine val (x_move (.bool (((t3 && (decide (0 ≤ p1))) && (decide (p1 < (p0.Holders.length : Int)))) && (decide (1 ≤ p2)))) rfl) ?_
 refine gval rfl rfl (fun hb => x_move (.int .i64 p2) rfl) ?_
 refine gval rfl rfl (fun hb => x_leq (gv hb) rfl) ?_
 refine val (x_pick rfl (.bool ((((t3 && (decide (0 ≤ p1))) && (decide (p1 < (p0.Holders.length : Int)))) && (decide (1 ≤ p2))) && (decide (p2 ≤ 4)))) pick_and) ?_
 refine val (x_move (.bool ((((t3 && (decide (0 ≤ p1))) && (decide (p1 < (p0.Holders.length : Int)))) && (decide (1 ≤ p2))) && (decide (p2 ≤ 4)))) rfl) ?_
 refine gval rfl rfl (fun hb => x_fa rfl fo27_0) ?_
 refine gval rfl rfl (fun hb => x_ld 0 (.int .i64 p0.Epoch) hO rfl (gv hb) rfl one3) ?_
 refine gval rfl rfl (fun hb => x_lss (gv hb) rfl) ?_
 refine val (x_pick rfl (.bool (((((t3 && (decide (0 ≤ p1))) && (decide (p1 < (p0.Holders.length : Int)))) && (decide (1 ≤ p2))) && (decide (p2 ≤ 4))) && (decide (p0.Epoch < 2147483647)))) pick_and) ?_
 refine val (x_assign (.bool (((((t3 && (decide (0 ≤ p1))) && (decide (p1 < (p0.Holders.length : Int)))) && (decide (1 ≤ p2))) && (decide (p2 ≤ 4))) && (decide (p0.Epoch < 2147483647)))) rfl) ?_
 refine nil (W.ret ?_)
 obtain rfl := sj hm0
 exact ⟨H5, rfl, hO.done⟩
theorem place_turned_ok {w0 : World} {H0 : IHeap} (hS : Sub H0 w0) {p0 : PlaceMap} {p1 : Int} {p2 : List Int}  {A1_ : Option Addr} {c1_ : Nat} {A2_ : Option Addr} {c2_ : Nat} (h1_ : RS (eSl (eInt .i64)) H0 A1_ c1_ p0.Holders) (h2_ : RS (eInt .i64) H0 A2_ c2_ p2) {res : PlaceMap} (hm0 : place_turned p0 p1 p2 = some res) :
  Ok prog 147 [(.agg #[(.int .i64 p0.Epoch), (.slice A1_ p0.Holders.length c1_)]), (.int .i64 p1), (.slice A2_ p2.length c2_)].toArray w0 H0 (fun H' v => ∃ (A1 : Option Addr) (c1 : Nat), v = (.agg #[(.int .i64 res.Epoch), (.slice A1 res.Holders.length c1)]) ∧ RS (eSl (eInt .i64)) H' A1 c1 res.Holders) := by
 unfold place_turned at hm0
 refine OkO.ok (okO_of_W Tryz.func147 rfl Tryz.ntmps147 (rs := [.cell 6 27]) rfl rfl ?_)
 have hO := St.start hS
 refine seq (region (o_box 0 [(.int .i64 p0.Epoch), (.slice A1_ p0.Holders.length c1_)] hO rfl ?_))
 intro g1 w2 hO
 refine o_alloc 1 _ [(.int .i64 0), (.slice none 0 0)] zer27 hO rfl ?_
 intro g3 w4 hO
 refine nil (seq ?_)
 have hO := hO.pick [(0, .blk g1 [(.int .i64 p0.Epoch), (.slice A1_ p0.Holders.length c1_)] 27), (1, .blk g3 [(.int .i64 0), (.slice none 0 0)] 27)] ⟨rfl, rfl, trivial⟩
 refine W.draw (SD w0 H0 [] H0 [(0, .blk g1 [(.int .i64 p0.Epoch), (.slice A1_ p0.Holders.length c1_)] 27), (1, .blk g3 [(.int .i64 0), (.slice none 0 0)] 27)]) (fun i => ([8] : List Nat).contains i) mixed 9 rfl _ rfl ?_
 intro w5 hh1 hh2 hh3 hh4; have hO := hO.same hh1 hh2 hh3 hh4; clear hh1 hh2 hh3 hh4
 have hS : SD w0 H0 [] H0 [(0, .blk g1 [(.int .i64 p0.Epoch), (.slice A1_ p0.Holders.length c1_)] 27), (1, .blk g3 [(.int .i64 0), (.slice none 0 0)] 27)] w5 := ⟨_, _, Le.refl _, hO, ⟨rfl, rfl, trivial⟩⟩
 refine take (i := 0) rfl (by kernel_rfl) (fun w hS => x_fa rfl fo27_0) hS ?_
 refine take (i := 1) rfl (by kernel_rfl) (fun w hS => x_ldD 0 (.int .i64 p0.Epoch) hS rfl rfl rfl one3) hS ?_
 refine take (i := 2) rfl (by kernel_rfl) (fun w hS => x_add rfl rfl) hS ?_
 refine take (i := 3) rfl (by kernel_rfl) (fun w hS => x_fa rfl fo27_1) hS ?_
 refine take (i := 4) rfl (by kernel_rfl) (fun w hS => x_ldD 0 (.slice A1_ p0.Holders.length c1_) hS rfl rfl rfl one25) hS ?_
 obtain ⟨t6, ht7, hm0⟩ := bindSome hm0
 refine WA.all [5, 7] (by kernel_rfl) (by simp) ?_
 intro i hi; simp only [List.mem_cons, List.not_mem_nil, or_false] at hi
 rcases hi with rfl | rfl
 ·refine ⟨_, rfl, ?_⟩
  refine o_callO hO go39 (slices_Clone__int_ok hO.sub h1_ ht7) rfl ?_
  rintro _ H8 O16 w9 le10 ⟨A11, c12, cs13, rfl, hr14, hk15⟩ hO'
  have hO := hO.callRow hO' 2 0 _ hk15; clear hO'
  have hS : SD w0 H0 [] H0 [(0, .blk g1 [(.int .i64 p0.Epoch), (.slice A1_ p0.Holders.length c1_)] 27), (1, .blk g3 [(.int .i64 0), (.slice none 0 0)] 27)] _ := ⟨_, _, le10, hO, ⟨rfl, rfl, trivial⟩⟩
  refine nil ⟨fun _ => hS, ?_⟩
  refine take (i := 6) rfl (by kernel_rfl) (fun w hS => x_build [(0, (.int .i64 (i64w (p0.Epoch + 1)))), (1, (.slice A11 t6.length c12))] [(.int .i64 (i64w (p0.Epoch + 1))), (.slice A11 t6.length c12)] ⟨rfl, rfl, rfl, rfl, trivial⟩ (by kernel_rfl)) hS ?_
  refine WA.only (i := 7) (by kernel_rfl) rfl ?_
  refine o_alloc 3 _ [(.int .i64 0), (.slice none 0 0)] zer27 hO rfl ?_
  intro g17 w18 hO
  have hS : SD w0 H0 [] H0 [(0, .blk g1 [(.int .i64 p0.Epoch), (.slice A1_ p0.Holders.length c1_)] 27), (1, .blk g3 [(.int .i64 0), (.slice none 0 0)] 27)] _ := ⟨_, _, le10, hO, ⟨rfl, rfl, trivial⟩⟩
  refine nil ⟨fun _ => hS, ?_⟩
  refine WA.only (i := 8) (by kernel_rfl) rfl ?_
  refine o_sts 3 [(.int .i64 (i64w (p0.Epoch + 1))), (.slice A11 t6.length c12)] hO rfl rfl rfl siz27 rfl (Nat.le_of_ble_eq_true rfl) (by simp [Value.oneCell', vs]) ?_
  intro w19 hO
  refine nil ⟨fun h => absurd h (by decide), ?_⟩
  refine WA.done (by kernel_rfl) ?_
  refine seq (region (val (x_fa rfl fo27_1) ?_))
  refine val (x_ld 3 (.slice A11 t6.length c12) hO rfl rfl rfl one25) ?_
  refine val (x_move (.int .i64 p1) rfl) ?_
  refine val (x_move (.slice A2_ p2.length c2_) rfl) ?_
  obtain ⟨hin20, hm0⟩ := chk hm0
  obtain ⟨hc21, g22, o23, hA24⟩ := hO.rowA (k := 2) rfl hin20
  refine val (x_ia (sA rfl hA24) rfl sle25 hin20) ?_
  refine o_stRow (en := (eSl (eInt .i64))) (z := p2) (k := 2) (.slice A2_ p2.length c2_) hO rfl hr14 hc21 hA24 hin20 rfl rfl rfl ⟨A2_, c2_, rfl, (h2_.up le10)⟩ siz61 ?_
  intro cs25 w26 hr27 hO
  have hO := hO.reblk 3 (cs' := [(.int .i64 (i64w (p0.Epoch + 1))), (.slice A11 (List.set t6 (Int.toNat p1) p2).length c12)]) rfl (by simp [splice])
  refine nil (seq (region (val (x_lds 3 [(.int .i64 (i64w (p0.Epoch + 1))), (.slice A11 (List.set t6 (Int.toNat p1) p2).length c12)] hO rfl rfl agg27 rfl rfl) ?_)))
  refine o_sts 1 [(.int .i64 (i64w (p0.Epoch + 1))), (.slice A11 (List.set t6 (Int.toNat p1) p2).length c12)] hO rfl rfl rfl siz27 rfl (Nat.le_of_ble_eq_true rfl) (by simp [Value.oneCell', vs]) ?_
  intro w28 hO
  refine nil (W.ret ?_)
  obtain ⟨H29, le30, h31, hO⟩ := hO.freezeRow (en := (eSl (eInt .i64))) 2 rfl rfl rfl hr27
  obtain rfl := sj hm0
  exact ⟨[(.agg #[(.int .i64 (i64w (p0.Epoch + 1))), (.slice A11 (List.set t6 (Int.toNat p1) p2).length c12)])], ⟨⟨_, rfl, hO.ldBlk 1 rfl agg27 rfl rfl⟩, trivial⟩, H29, _, ⟨A11, c12, rfl, h31⟩, hO⟩
 ·refine ⟨_, rfl, ?_⟩
  refine o_alloc 4 _ [(.int .i64 0), (.slice none 0 0)] zer27 hO rfl ?_
  intro g8 w9 hO
  have hS : SD w0 H0 [] H0 [(0, .blk g1 [(.int .i64 p0.Epoch), (.slice A1_ p0.Holders.length c1_)] 27), (1, .blk g3 [(.int .i64 0), (.slice none 0 0)] 27)] _ := ⟨_, _, (Le.refl _), hO, ⟨rfl, rfl, trivial⟩⟩
  refine nil ⟨fun _ => hS, ?_⟩
  refine WA.only (i := 5) (by kernel_rfl) rfl ?_
  refine o_callO hO go39 (slices_Clone__int_ok hO.sub h1_ ht7) rfl ?_
  rintro _ H10 O18 w11 le12 ⟨A13, c14, cs15, rfl, hr16, hk17⟩ hO'
  have hO := hO.callRow hO' 5 0 _ hk17; clear hO'
  have hS : SD w0 H0 [] H0 [(0, .blk g1 [(.int .i64 p0.Epoch), (.slice A1_ p0.Holders.length c1_)] 27), (1, .blk g3 [(.int .i64 0), (.slice none 0 0)] 27)] _ := ⟨_, _, le12, hO, ⟨rfl, rfl, trivial⟩⟩
  refine nil ⟨fun _ => hS, ?_⟩
  refine take (i := 6) rfl (by kernel_rfl) (fun w hS => x_build [(0, (.int .i64 (i64w (p0.Epoch + 1)))), (1, (.slice A13 t6.length c14))] [(.int .i64 (i64w (p0.Epoch + 1))), (.slice A13 t6.length c14)] ⟨rfl, rfl, rfl, rfl, trivial⟩ (by kernel_rfl)) hS ?_
  refine WA.only (i := 8) (by kernel_rfl) rfl ?_
  refine o_sts 4 [(.int .i64 (i64w (p0.Epoch + 1))), (.slice A13 t6.length c14)] hO rfl rfl rfl siz27 rfl (Nat.le_of_ble_eq_true rfl) (by simp [Value.oneCell', vs]) ?_
  intro w19 hO
  refine nil ⟨fun h => absurd h (by decide), ?_⟩
  refine WA.done (by kernel_rfl) ?_
  refine seq (region (val (x_fa rfl fo27_1) ?_))
  refine val (x_ld 4 (.slice A13 t6.length c14) hO rfl rfl rfl one25) ?_
  refine val (x_move (.int .i64 p1) rfl) ?_
  refine val (x_move (.slice A2_ p2.length c2_) rfl) ?_
  obtain ⟨hin20, hm0⟩ := chk hm0
  obtain ⟨hc21, g22, o23, hA24⟩ := hO.rowA (k := 5) rfl hin20
  refine val (x_ia (sA rfl hA24) rfl sle25 hin20) ?_
  refine o_stRow (en := (eSl (eInt .i64))) (z := p2) (k := 5) (.slice A2_ p2.length c2_) hO rfl hr16 hc21 hA24 hin20 rfl rfl rfl ⟨A2_, c2_, rfl, (h2_.up le12)⟩ siz61 ?_
  intro cs25 w26 hr27 hO
  have hO := hO.reblk 4 (cs' := [(.int .i64 (i64w (p0.Epoch + 1))), (.slice A13 (List.set t6 (Int.toNat p1) p2).length c14)]) rfl (by simp [splice])
  refine nil (seq (region (val (x_lds 4 [(.int .i64 (i64w (p0.Epoch + 1))), (.slice A13 (List.set t6 (Int.toNat p1) p2).length c14)] hO rfl rfl agg27 rfl rfl) ?_)))
  refine o_sts 1 [(.int .i64 (i64w (p0.Epoch + 1))), (.slice A13 (List.set t6 (Int.toNat p1) p2).length c14)] hO rfl rfl rfl siz27 rfl (Nat.le_of_ble_eq_true rfl) (by simp [Value.oneCell', vs]) ?_
  intro w28 hO
  refine nil (W.ret ?_)
  obtain ⟨H29, le30, h31, hO⟩ := hO.freezeRow (en := (eSl (eInt .i64))) 5 rfl rfl rfl hr27
  obtain rfl := sj hm0
  exact ⟨[(.agg #[(.int .i64 (i64w (p0.Epoch + 1))), (.slice A13 (List.set t6 (Int.toNat p1) p2).length c14)])], ⟨⟨_, rfl, hO.ldBlk 1 rfl agg27 rfl rfl⟩, trivial⟩, H29, _, ⟨A13, c14, rfl, h31⟩, hO⟩
theorem place_Add_ok {w0 : World} {H0 : IHeap} (hS : Sub H0 w0) {p0 : PlaceMap} {p1 : Int} {p2 : Int}  {A1_ : Option Addr} {c1_ : Nat} (h1_ : RS (eSl (eInt .i64)) H0 A1_ c1_ p0.Holders) {res : PlaceMap × Int} (hm0 : place_Add p0 p1 p2 = some res) :
  Ok prog 117 [(.agg #[(.int .i64 p0.Epoch), (.slice A1_ p0.Holders.length c1_)]), (.int .i64 p1), (.int .i64 p2)].toArray w0 H0 (fun H' v => ∃ (A1 : Option Addr) (c1 : Nat), v = (.tuple #[(.agg #[(.int .i64 res.1.Epoch), (.slice A1 res.1.Holders.length c1)]), (.int .i64 res.2)]) ∧ RS (eSl (eInt .i64)) H' A1 c1 res.1.Holders) := by
 unfold place_Add at hm0
 refine OkO.ok (okO_of_W Tryz.func117 rfl Tryz.ntmps117 (rs := [.cell 6 27, .tmp 7]) rfl rfl ?_)
 have hO := St.start hS
 refine seq (region (o_box 0 [(.int .i64 p0.Epoch), (.slice A1_ p0.Holders.length c1_)] hO rfl ?_))
 intro g1 w2 hO
 refine o_alloc 1 _ [(.int .i64 0), (.slice none 0 0)] zer27 hO rfl ?_
 intro g3 w4 hO
 refine val (x_assign (.int .i64 0) rfl) ?_
 refine nil (seq (W.block ?_))
 refine seq (region (val (x_lds 0 [(.int .i64 p0.Epoch), (.slice A1_ p0.Holders.length c1_)] hO rfl rfl agg27 rfl rfl) ?_))
 refine val (x_move (.int .i64 p1) rfl) ?_
 refine val (x_move (.int .i64 p2) rfl) ?_
 obtain ⟨t5, ht6, hm0⟩ := bindSome hm0
 refine o_call hO go146 (place_may_ok hO.sub h1_ ht6) rfl ?_
 rintro _ H7 w8 le9 rfl hO
 refine val (x_not rfl) ?_
 refine val (x_assign (.bool (!t5)) rfl) ?_
 refine nil (test rfl hm0 ?_ ?_)
 ·intro hb10 hm0
  refine seq (region (val (x_lds 0 [(.int .i64 p0.Epoch), (.slice A1_ p0.Holders.length c1_)] hO rfl rfl agg27 rfl rfl) ?_))
  refine o_sts 1 [(.int .i64 p0.Epoch), (.slice A1_ p0.Holders.length c1_)] hO rfl rfl rfl siz27 rfl (Nat.le_of_ble_eq_true rfl) (by simp [Value.oneCell', vs]) ?_
  intro w11 hO
  refine val (x_assign (.int .i64 1) rfl) ?_
  refine nil (W.ret ?_)
  obtain rfl := sj hm0
  exact ⟨[(.agg #[(.int .i64 p0.Epoch), (.slice A1_ p0.Holders.length c1_)]), (.int .i64 1)], ⟨⟨_, rfl, hO.ldBlk 1 rfl agg27 rfl rfl⟩, rfl, trivial⟩, H7, _, ⟨A1_, c1_, rfl, (h1_.up le9)⟩, hO⟩
 ·intro hb10 hm0
  refine seq (region (val (x_lds 0 [(.int .i64 p0.Epoch), (.slice A1_ p0.Holders.length c1_)] hO rfl rfl agg27 rfl rfl) ?_))
  refine val (x_move (.int .i64 p1) rfl) ?_
  refine val (x_move (.int .i64 p2) rfl) ?_
  obtain ⟨t12, ht13, hm0⟩ := bindSome hm0
  refine o_call hO go98 (place_Holds_ok hO.sub (h1_.up le9) ht13) rfl ?_
  rintro _ H14 w15 le16 rfl hO
  refine val (x_assign (.bool t12) rfl) ?_
  refine nil (test rfl hm0 ?_ ?_)
  ·intro hb17 hm0
   refine seq (region (val (x_lds 0 [(.int .i64 p0.Epoch), (.slice A1_ p0.Holders.length c1_)] hO rfl rfl agg27 rfl rfl) ?_))
   refine o_sts 1 [(.int .i64 p0.Epoch), (.slice A1_ p0.Holders.length c1_)] hO rfl rfl rfl siz27 rfl (Nat.le_of_ble_eq_true rfl) (by simp [Value.oneCell', vs]) ?_
   intro w18 hO
   refine val (x_assign (.int .i64 5) rfl) ?_
   refine nil (W.ret ?_)
   obtain rfl := sj hm0
   exact ⟨[(.agg #[(.int .i64 p0.Epoch), (.slice A1_ p0.Holders.length c1_)]), (.int .i64 5)], ⟨⟨_, rfl, hO.ldBlk 1 rfl agg27 rfl rfl⟩, rfl, trivial⟩, H14, _, ⟨A1_, c1_, rfl, (h1_.up (le9.trans le16))⟩, hO⟩
  ·intro hb17 hm0
   refine skip (seq (region (val (x_fa rfl fo27_1) ?_)))
   refine val (x_ld 0 (.slice A1_ p0.Holders.length c1_) hO rfl rfl rfl one25) ?_
   refine val (x_move (.int .i64 p1) rfl) ?_
   obtain ⟨hin22, hm0⟩ := chk hm0
   obtain ⟨a19, h20, hA21⟩ := RS.at_ (h1_.up (le9.trans le16)) hin22
   refine val (x_ia (sA rfl hA21) rfl sle25 hin22) ?_
   obtain ⟨A23, c24, h25, hc26⟩ := At.sl h20
   refine val (x_ldc rfl (hc26 _ hO.sub) one61) ?_
   obtain ⟨t27, ht28, hm0⟩ := bindSome hm0
   refine o_callO hO go113 (slices_Clone_int_ok hO.sub h25 ht28) rfl ?_
   rintro _ H29 O37 w30 le31 ⟨A32, c33, cs34, rfl, hr35, hk36⟩ hO'
   have hO := hO.callRow hO' 2 0 _ hk36; clear hO'
   refine val (x_move (.int .i64 p2) rfl) ?_
   refine o_litT (en := (eInt .i64)) 3 [(.int .i64 p2)] ([p2] : List Int) hO sli61 ⟨rfl, trivial⟩ rfl rfl rfl ?_
   intro g38 cs39 w40 hr41 hO
   refine o_appT (en := (eInt .i64)) (xs := t27) (ys := ([p2] : List Int)) 2 hO rfl hr35 rfl rfl (Src.row (k := 3) hO rfl) hr41 sli61 rfl rfl underlying61 hm0 ?_
   intro A42 c43 cs44 w45 hr46 hO hm0
   refine val (x_assign (.slice A42 (t27 ++ ([p2] : List Int)).length c43) rfl) ?_
   refine nil (seq (region (val (x_move (.slice A42 (t27 ++ ([p2] : List Int)).length c43) rfl) ?_)))
   obtain ⟨t47, ht48, hm0⟩ := bindSome hm0
   refine o_callM (args := [(.slice A42 (t27 ++ ([p2] : List Int)).length c43)]) 2 hO rfl go114 (sort_ok Go.Proofs.Tryz.lays189 (hO.enter 2 rfl) hr46 ht48) rfl ?_
   rintro _ H49 O52 w50 le51 ⟨rfl, cs55, hr56, hl58, hk57⟩ hO; rw [hk57] at hO
   obtain ⟨H59, le60, h61, hO⟩ := hO.freezeRow (en := (eInt .i64)) 2 rfl rfl rfl hr56
   refine nil (seq (region (val (x_lds 0 [(.int .i64 p0.Epoch), (.slice A1_ p0.Holders.length c1_)] hO rfl rfl agg27 rfl rfl) ?_)))
   refine val (x_move (.int .i64 p1) rfl) ?_
   refine val (x_move (.slice A42 t47.length c43) (relen hl58 rfl)) ?_
   obtain ⟨t62, ht63, hm0⟩ := bindSome hm0
   refine o_call hO go147 (place_turned_ok hO.sub (h1_.up (le9.trans (le16.trans (le31.trans (le51.trans le60))))) h61 ht63) rfl ?_
   rintro _ H64 w65 le66 ⟨A67, c68, rfl, h69⟩ hO
   refine o_sts 1 [(.int .i64 t62.Epoch), (.slice A67 t62.Holders.length c68)] hO rfl rfl rfl siz27 rfl (Nat.le_of_ble_eq_true rfl) (by simp [Value.oneCell', vs]) ?_
   intro w70 hO
   refine val (x_assign (.int .i64 0) rfl) ?_
   refine nil (W.ret ?_)
   obtain rfl := sj hm0
   exact ⟨[(.agg #[(.int .i64 t62.Epoch), (.slice A67 t62.Holders.length c68)]), (.int .i64 0)], ⟨⟨_, rfl, hO.ldBlk 1 rfl agg27 rfl rfl⟩, rfl, trivial⟩, H64, _, ⟨A67, c68, rfl, h69⟩, hO⟩
theorem fleet_Fleet_Add_ok {w0 : World} {H0 : IHeap} {p0 : FleetFleet} {p1 : Int} {p2 : Int}  {g1_ : Nat} {cs2_ : List Value} {A4_ : Option Addr} {c5_ : Nat} {cs6_ : List Value} {A8_ : Option Addr} {c9_ : Nat} {cs10_ : List Value} {M : List Nat} (hO : St w0 H0 M H0 (ol [(0, .blk g1_ cs2_ 93), (1, .row A4_ c5_ 61 (eSl (eInt .i64)).size p0.answers.length cs6_), (2, .row A8_ c9_ 4 eBool.size p0.answered.length cs10_)]) w0) (h3_ : Enc.rep (eFleetFleet (.slice A4_ p0.answers.length c5_) (.slice A8_ p0.answered.length c9_)) H0 cs2_ p0) (h7_ : Rows (eSl (eInt .i64)) H0 cs6_ p0.answers) (h11_ : Rows eBool H0 cs10_ p0.answered) {res : FleetFleet × Int} (hm0 : fleet_Fleet_Add p0 p1 p2 = some res) :
  OkM prog 69 [(.pointer (some ⟨g1_, 0, none⟩)), (.int .i64 p1), (.int .i64 p2)].toArray w0 H0 M (fun H' O' v => ∃ (cs1 : List Value) (A1_0 : Option Addr) (c1_0 : Nat) (cs1_0 : List Value) (A1_1 : Option Addr) (c1_1 : Nat) (cs1_1 : List Value), v = (.int .i64 res.2) ∧ Enc.rep (eFleetFleet (.slice A1_0 res.1.answers.length c1_0) (.slice A1_1 res.1.answered.length c1_1)) H' cs1 res.1 ∧ Rows (eSl (eInt .i64)) H' cs1_0 res.1.answers ∧ Rows eBool H' cs1_1 res.1.answered ∧ O' 0 = some (.blk g1_ cs1 93) ∧ O' 1 = some (.row A1_0 c1_0 61 (eSl (eInt .i64)).size res.1.answers.length cs1_0) ∧ O' 2 = some (.row A1_1 c1_1 4 eBool.size res.1.answered.length cs1_1)) := by
 unfold fleet_Fleet_Add at hm0
 refine (okM_of_W Tryz.func69 rfl Tryz.ntmps69 (rs := [.tmp 6]) rfl rfl ?_)
 refine seq (region (val (x_assign (.int .i64 0) rfl) ?_))
 refine nil (seq (region (val (x_move (.pointer (some ⟨g1_, 0, none⟩)) rfl) ?_)))
 refine val (x_nilCheck rfl) ?_
 refine val (x_fa rfl fo93_1) ?_
 obtain ⟨cs1, hr2, hc3⟩ := lFleetFleet_p.part _ _ _ h3_
 obtain ⟨A4, c5, rfl, h6⟩ := hr2
 refine val (x_lds 0 [(.int .i64 p0.p.Epoch), (.slice A4 p0.p.Holders.length c5)] hO rfl rfl agg27 (take_of_part hc3 rfl) rfl) ?_
 refine val (x_move (.int .i64 p1) rfl) ?_
 refine val (x_move (.int .i64 p2) rfl) ?_
 obtain ⟨t7, ht8, hm0⟩ := bindSome hm0
 refine o_call hO go117 (place_Add_ok hO.sub h6 ht8) rfl ?_
 rintro _ H9 w10 le11 ⟨A12, c13, rfl, h14⟩ hO
 refine val (x_move (.tuple #[(.agg #[(.int .i64 t7.1.Epoch), (.slice A12 t7.1.Holders.length c13)]), (.int .i64 t7.2)]) rfl) ?_
 refine val (x_extract (.agg #[(.int .i64 t7.1.Epoch), (.slice A12 t7.1.Holders.length c13)]) rfl rfl) ?_
 refine val (x_extract (.int .i64 t7.2) rfl rfl) ?_
 refine o_alloc 3 _ [(.int .i64 0), (.slice none 0 0)] zer27 hO rfl ?_
 intro g15 w16 hO
 refine o_sts 3 [(.int .i64 t7.1.Epoch), (.slice A12 t7.1.Holders.length c13)] hO rfl rfl rfl siz27 rfl (Nat.le_of_ble_eq_true rfl) (by simp [Value.oneCell', vs]) ?_
 intro w17 hO
 refine val (x_assign (.int .i64 t7.2) rfl) ?_
 refine nil (seq (region (val (x_move (.pointer (some ⟨g1_, 0, none⟩)) rfl) ?_)))
 refine val (x_lds 3 [(.int .i64 t7.1.Epoch), (.slice A12 t7.1.Holders.length c13)] hO rfl rfl agg27 rfl rfl) ?_
 refine val (x_nilCheck rfl) ?_
 refine val (x_fa rfl fo93_1) ?_
 refine o_stP 0 (.agg #[(.int .i64 t7.1.Epoch), (.slice A12 t7.1.Holders.length c13)]) hO rfl (Enc.mono _ le11 h3_) lFleetFleet_p rfl rfl rfl ⟨A12, c13, rfl, h14⟩ siz27 ?_
 intro cs18 w19 (hr20 : Enc.rep (eFleetFleet (.slice A4_ p0.answers.length c5_) (.slice A8_ p0.answered.length c9_)) H9 cs18 ({ p0 with p := (⟨t7.1.Epoch, t7.1.Holders⟩ : PlaceMap) } : FleetFleet)) hO
 refine nil (seq (region (val (x_move (.int .i64 t7.2) rfl) ?_)))
 refine val (x_assign (.int .i64 t7.2) rfl) ?_
 refine nil (W.ret ?_)
 obtain rfl := sj hm0
 exact ⟨[(.int .i64 t7.2)], ⟨rfl, trivial⟩, H9, _, ⟨cs18, A4_, c5_, cs6_, A8_, c9_, cs10_, rfl, hr20, (h7_.up le11), (h11_.up le11), rfl, rfl, rfl⟩, hO.relabel [(0, .blk g1_ cs18 93), (1, .row A4_ c5_ 61 (eSl (eInt .i64)).size p0.answers.length cs6_), (2, .row A8_ c9_ 4 eBool.size p0.answered.length cs10_)] ⟨rfl, rfl, rfl, trivial⟩ (names_nd (ns := [0, 1, 2]) rfl (by decide))⟩
theorem place_Retire_1_ok {w0 : World} {H0 : IHeap} (hS : Sub H0 w0) {p0 : Int} {q_0 : Int}  {a1_ : Addr} (h1_ : At (eInt .i64) H0 a1_ q_0) {res : Bool} (hm0 : place_Retire_1 p0 q_0 = some res) :
  Ok prog 149 [(.int .i64 p0), (.pointer (some a1_))].toArray w0 H0 (fun H' v => v = (.bool res)) := by
 unfold place_Retire_1 at hm0
 refine ok_of_W Tryz.func149 rfl Tryz.ntmps149 (ts := [3]) rfl rfl rfl ?_
 have hO := St.start hS
 refine seq (region (val (x_assign (.bool false) rfl) ?_))
 refine nil (seq (region (val (x_move (.int .i64 p0) rfl) ?_)))
 refine val (x_ldc rfl (h1_.int _ hO.sub) one3) ?_
 refine val (x_eql rfl rfl) ?_
 refine val (x_assign (.bool (p0 == q_0)) rfl) ?_
 refine nil (W.ret ?_)
 obtain rfl := sj hm0
 exact ⟨H0, rfl, hO.done⟩
theorem slices_IndexFunc_int_place_Retire_1_ok {w0 : World} {H0 : IHeap} (hS : Sub H0 w0) {p0 : List Int} {q1_0 : Int}  {A1_ : Option Addr} {c1_ : Nat} {a2_ : Addr} (h1_ : RS (eInt .i64) H0 A1_ c1_ p0) (h2_ : At (eInt .i64) H0 a2_ q1_0) {res : Int} (hm0 : slices_IndexFunc_int_place_Retire_1 p0 q1_0 = some res) :
  Ok prog 122 [(.slice A1_ p0.length c1_), (.func (.func 149) #[] #[(.pointer (some a2_))])].toArray w0 H0 (fun H' v => v = (.int .i64 res)) := by
 unfold slices_IndexFunc_int_place_Retire_1 at hm0
 refine ok_of_W Tryz.func122 rfl Tryz.ntmps122 (ts := [4]) rfl rfl rfl ?_
 have hO := St.start hS
 refine seq (region (val (x_assign (.int .i64 0) rfl) ?_))
 refine nil (seq (seq (region (val (x_move (.slice A1_ p0.length c1_) rfl) ?_))))
 refine val (x_len rfl underlying61) ?_
 refine val (x_move (.int .i64 0) rfl) ?_
 refine nil ?_
 obtain ⟨o1, hm1, hm0⟩ := bindSome hm0
 have hO := hO.pick [] trivial
 refine W.blockLoop (fun r w => ∃ (i4 : Nat) (H2 : IHeap), .out () = o1 ∧ Le H0 H2 ∧ St w0 H0 [] H2 (ol []) w) (fun k r w => ∃ (i4 : Nat) (rest5 : List Int) (H2 : IHeap), k = rest5.length ∧ List.drop i4 p0 = rest5 ∧ slices_IndexFunc_int_place_Retire_1_l1 q1_0 rest5 i4 = some o1 ∧ Le H0 H2 ∧ St w0 H0 [] H2 (ol []) w ∧ r 0 = (.slice A1_ p0.length c1_) ∧ r 1 = (.func (.func 149) #[] #[(.pointer (some a2_))]) ∧ r 7 = (.int .i64 (p0.length : Int)) ∧ r 8 = (.int .i64 (i4 : Int))) (List.length p0) ?_ ?_ ?_
 ·exact ⟨0, _, _, rfl, rfl, hm1, Le.refl _, hO, rfl, rfl, rfl, rfl⟩
 ·
  intro k r w
  rintro ⟨i4, rest5, H2, rfl, hd7, hm1, le3, hO, f0_1, f1_1, f7_1, f8_1⟩
  cases rest5 with
  | nil =>
   rw [slices_IndexFunc_int_place_Retire_1_l1] at hm1
   have hlt := drop_nil hd7
   refine seq (region (val (x_lss f8_1 f7_1) ?_))
   refine nil (seq (W.cond_f (kb rfl hlt) ?_))
   refine W.exit _ rfl ?_
   obtain rfl := sj hm1
   exact ⟨i4, H2, rfl, le3, hO.pick _ trivial⟩
  | cons x6 rest5 =>
   rw [slices_IndexFunc_int_place_Retire_1_l1] at hm1
   have hlt := drop_lt hd7
   have hnx := drop_next hd7
   have hinc := inc_len hlt h1_.1 h1_.2.1
   refine seq (region (val (x_lss f8_1 f7_1) ?_))
   refine nil (seq (W.cond_t (kb rfl hlt) ?_))
   refine skip (seq (W.block ?_))
   refine seq (region (val (x_move (.int .i64 (i4 : Int)) f8_1) ?_))
   refine val (x_assign (.int .i64 (i4 : Int)) rfl) ?_
   refine nil (seq (region (val (x_move (.func (.func 149) #[] #[(.pointer (some a2_))]) f1_1) ?_)))
   refine val (x_move (.slice A1_ p0.length c1_) f0_1) ?_
   refine val (x_move (.int .i64 (i4 : Int)) rfl) ?_
   obtain ⟨a8, h9, hA10, hin⟩ := RS.atR (h1_.up le3) hd7
   refine val (x_ia (sA rfl hA10) rfl sle61 hin) ?_
   refine val (x_ldc rfl (h9.int _ hO.sub) one3) ?_
   obtain ⟨t11, ht12, hm1⟩ := bindSome hm1
   refine o_callv (args := [(.int .i64 x6)]) (caps := [(.pointer (some a2_))]) hO rfl go149 (place_Retire_1_ok hO.sub (h2_.up le3) ht12) rfl ?_
   rintro _ H13 w14 le15 rfl hO
   refine nil (test rfl hm1 ?_ ?_)
   ·intro hb16 hm1
    refine seq (region (val (x_move (.int .i64 (i4 : Int)) rfl) ?_))
    refine val (x_assign (.int .i64 (i4 : Int)) rfl) ?_
    refine nil (W.ret ?_)
    obtain rfl := sj hm1
    dsimp only at hm0
    obtain rfl := sj hm0
    exact ⟨H13, rfl, hO.done⟩
   ·intro hb16 hm1
    refine skip (region (val (x_add f8_1 rfl) ?_))
    refine val (x_move (.int .i64 (i64w ((i4 : Int) + 1))) rfl) ?_
    refine nil ?_
    exact ⟨_, Nat.lt_succ_self _, i4 + 1, rest5, H13, rfl, hnx, hm1, (le3.trans le15), hO.pick _ trivial, f0_1, f1_1, f7_1, (incv hinc)⟩
 ·intro r w
  rintro ⟨i19, H17, rfl, le18, hO⟩
  dsimp only at hm0
  refine seq (region (val (x_assign (.int .i64 (-1)) rfl) ?_))
  refine nil (W.ret ?_)
  obtain rfl := sj hm0
  exact ⟨H17, rfl, hO.done⟩
theorem slices_DeleteFunc_int_place_Retire_1_ok {w0 : World} {H0 : IHeap} {p0 : List Int} {q1_0 : Int}  {A1_ : Option Addr} {c1_ : Nat} {a2_ : Addr} {M : List Nat} {cells_ : List Value} (hO : St w0 H0 M H0 (ol [(0, .row A1_ c1_ 3 (eInt .i64).size p0.length cells_)]) w0) (h1_ : Rows (eInt .i64) H0 cells_ p0) (h2_ : At (eInt .i64) H0 a2_ q1_0) {res : (List Int)} (hm0 : slices_DeleteFunc_int_place_Retire_1 p0 q1_0 = some res) :
  OkM prog 148 [(.slice A1_ p0.length c1_), (.func (.func 149) #[] #[(.pointer (some a2_))])].toArray w0 H0 M (fun H' O' v => ∃ (A : Option Addr) (c : Nat) (cs : List Value), v = .slice A res.length c ∧ Rows (eInt .i64) H' cs res ∧ O' 0 = some (.row A c 3 (eInt .i64).size res.length cs)) := by
 unfold slices_DeleteFunc_int_place_Retire_1 at hm0
 refine (okM_of_W Tryz.func148 rfl Tryz.ntmps148 (rs := [.tmp 4]) rfl rfl ?_)
 refine seq (region (val (x_assign (.slice none 0 0) rfl) ?_))
 refine nil (seq (region (val (x_move (.slice A1_ p0.length c1_) rfl) ?_)))
 refine val (x_move (.func (.func 149) #[] #[(.pointer (some a2_))]) rfl) ?_
 obtain ⟨t1, ht2, hm0⟩ := bindSome hm0
 refine o_callRO (u := (.int .i64 t1)) (args := [(.slice A1_ p0.length c1_), (.func (.func 149) #[] #[(.pointer (some a2_))])]) 0 hO rfl rfl rfl h1_ go122 (fun H1_ l1_ h1_ s1_ => slices_IndexFunc_int_place_Retire_1_ok s1_ h1_ (h2_.up l1_) ht2) rfl ?_
 intro H3 w4 le5 hO
 refine val (x_assign (.int .i64 t1) rfl) ?_
 refine nil (seq (seq (region (val (x_move (.int .i64 t1) rfl) ?_))))
 refine val (x_eql rfl rfl) ?_
 refine nil (test rfl hm0 ?_ ?_)
 ·intro hb6 hm0
  refine seq (region (val (x_move (.slice A1_ p0.length c1_) rfl) ?_))
  refine val (x_assign (.slice A1_ p0.length c1_) rfl) ?_
  refine nil (W.ret ?_)
  obtain rfl := sj hm0
  exact ⟨[_], ⟨rfl, trivial⟩, H3, ol [(0, _)], ⟨_, _, _, rfl, (h1_.up le5), rfl⟩, hO.row0 0 rfl⟩
 ·intro hb6 hm0
  refine skip (seq (seq (region (val (x_move (.int .i64 t1) rfl) ?_))))
  refine val (x_add rfl rfl) ?_
  refine val (x_assign (.int .i64 (i64w (t1 + 1))) rfl) ?_
  refine nil ?_
  obtain ⟨o7, hm1, hm0⟩ := bindSome hm0
  have hO := hO.pick [(0, .row A1_ c1_ 3 (eInt .i64).size p0.length cells_)] ⟨rfl, trivial⟩
  refine W.blockLoop (fun r w => ∃ (v13 : List Int) (A14 : Option Addr) (c15 : Nat) (cs16 : List Value) (v18 : Int) (v19 : Int) (H8 : IHeap), (v13, v18, v19) = o7 ∧ Le H3 H8 ∧ St w0 H0 M H8 (ol [(0, .row A14 c15 3 (eInt .i64).size v13.length cs16)]) w ∧ r 0 = (.slice A14 v13.length c15) ∧ r 5 = (.int .i64 v18) ∧ Rows (eInt .i64) H8 cs16 v13) (fun k r w => ∃ (rest11 : Nat) (v13 : List Int) (A14 : Option Addr) (c15 : Nat) (cs16 : List Value) (v18 : Int) (v19 : Int) (H8 : IHeap), rest11 = k ∧ slices_DeleteFunc_int_place_Retire_1_l1 q1_0 rest11 v13 v18 v19 = some o7 ∧ Le H3 H8 ∧ St w0 H0 M H8 (ol [(0, .row A14 c15 3 (eInt .i64).size v13.length cs16)]) w ∧ r 0 = (.slice A14 v13.length c15) ∧ r 1 = (.func (.func 149) #[] #[(.pointer (some a2_))]) ∧ r 5 = (.int .i64 v18) ∧ r 6 = (.int .i64 v19) ∧ Rows (eInt .i64) H8 cs16 v13) FUEL ?_ ?_ ?_
  ·exact ⟨_, p0, A1_, c1_, cells_, t1, i64w (t1 + 1), _, rfl, hm1, Le.refl _, hO, rfl, rfl, rfl, rfl, (h1_.up le5)⟩
  ·
   intro k r w
   rintro ⟨rest11, v13, A14, c15, cs16, v18, v19, H8, rfl, hm1, le9, hO, f0_1, f1_1, f5_1, f6_1, h17⟩
   cases rest11 with
   | zero => rw [slices_DeleteFunc_int_place_Retire_1_l1] at hm1; cases hm1
   | succ rest11 =>
    rw [slices_DeleteFunc_int_place_Retire_1_l1] at hm1
    refine seq (seq (region (val (x_move (.int .i64 v19) f6_1) ?_)))
    refine val (x_move (.slice A14 v13.length c15) f0_1) ?_
    refine val (x_len rfl underlying61) ?_
    refine val (x_lss rfl rfl) ?_
    refine nil (test rfl hm1 ?_ ?_)
    ·intro hb20 hm1
     refine skip (seq (W.block ?_))
     refine seq (region (val (x_move (.slice A14 v13.length c15) f0_1) ?_))
     refine val (x_move (.int .i64 v19) f6_1) ?_
     obtain ⟨hin21, hm1⟩ := chk hm1
     obtain ⟨hc22, g23, o24, hA25⟩ := hO.rowA (k := 0) rfl hin21
     refine val (x_ia (sA rfl hA25) rfl sle61 hin21) ?_
     obtain ⟨cs26, hr27, hc28⟩ := row_elem (en := (eInt .i64)) (k := 0) hO rfl h17 hc22 hA25 (at0_some hin21)
     obtain rfl := hr27
     refine val (x_ldc rfl (by rw [addr_add]; exact hc28 0 _ rfl) one3) ?_
     refine val (x_assign (.int .i64 (at0 v13 v19)) rfl) ?_
     refine nil (seq (region (val (x_move (.func (.func 149) #[] #[(.pointer (some a2_))]) f1_1) ?_)))
     refine val (x_move (.int .i64 (at0 v13 v19)) rfl) ?_
     obtain ⟨t29, ht30, hm1⟩ := bindSome hm1
     refine o_callv (args := [(.int .i64 (at0 v13 v19))]) (caps := [(.pointer (some a2_))]) hO rfl go149 (place_Retire_1_ok hO.sub (h2_.up (le5.trans le9)) ht30) rfl ?_
     rintro _ H31 w32 le33 rfl hO
     refine val (x_not rfl) ?_
     refine nil (test rfl hm1 ?_ ?_)
     ·intro hb34 hm1
      refine seq (region (val (x_move (.slice A14 v13.length c15) f0_1) ?_))
      refine val (x_move (.int .i64 v18) f5_1) ?_
      refine val (x_move (.int .i64 (at0 v13 v19)) rfl) ?_
      obtain ⟨hin35, hm1⟩ := chk hm1
      obtain ⟨hc36, g37, o38, hA39⟩ := hO.rowA (k := 0) rfl hin35
      refine val (x_ia (sA rfl hA39) rfl sle61 hin35) ?_
      refine o_stRow (en := (eInt .i64)) (z := (at0 v13 v19)) (k := 0) (.int .i64 (at0 v13 v19)) hO rfl (h17.up le33) hc36 hA39 hin35 rfl rfl rfl rfl siz3 ?_
      intro cs40 w41 hr42 hO
      refine nil (region (val (x_move (.int .i64 v18) f5_1) ?_))
      refine val (x_add rfl rfl) ?_
      refine val (x_assign (.int .i64 (i64w (v18 + 1))) rfl) ?_
      refine nil (region (val (x_move (.int .i64 v19) f6_1) ?_))
      refine val (x_add rfl rfl) ?_
      refine val (x_assign (.int .i64 (i64w (v19 + 1))) rfl) ?_
      refine nil ?_
      exact ⟨_, Nat.lt_succ_self _, rest11, (List.set v13 (Int.toNat v18) (at0 v13 v19)), A14, c15, cs40, i64w (v18 + 1), i64w (v19 + 1), H31, rfl, hm1, (le9.trans le33), hO.pick _ ⟨rfl, trivial⟩, (setlen f0_1), f1_1, rfl, rfl, hr42⟩
     ·intro hb34 hm1
      refine skip (region (val (x_move (.int .i64 v19) f6_1) ?_))
      refine val (x_add rfl rfl) ?_
      refine val (x_assign (.int .i64 (i64w (v19 + 1))) rfl) ?_
      refine nil ?_
      exact ⟨_, Nat.lt_succ_self _, rest11, v13, A14, c15, cs16, v18, i64w (v19 + 1), H31, rfl, hm1, (le9.trans le33), hO.pick _ ⟨rfl, trivial⟩, f0_1, f1_1, f5_1, rfl, (h17.up le33)⟩
    ·intro hb20 hm1
     refine W.exit _ rfl ?_
     obtain rfl := sj hm1
     exact ⟨v13, A14, c15, cs16, v18, v19, H8, rfl, le9, hO.pick _ ⟨rfl, trivial⟩, f0_1, f5_1, h17⟩
  ·intro r w
   rintro ⟨v45, A46, c47, cs49, v50, v51, H43, rfl, le44, hO, f53, f54, h48⟩
   dsimp only at hm0
   refine seq (region (val (x_move (.slice A46 v45.length c47) f53) ?_))
   refine val (x_move (.int .i64 v50) f54) ?_
   obtain ⟨hok55, hm0⟩ := chk hm0
   have hle56 := row_le (k := 0) hO rfl
   refine val (x_sll (xs := v45) sle61 rfl hle56 rfl hok55) ?_
   refine o_clear (en := (eInt .i64)) (xs := v45) (b := v50) 0 hO rfl h48 rfl sli61 rfl hok55 ?_
   intro cs57 w58 hr59 hO
   refine nil (seq (region (val (x_move (.slice A46 v45.length c47) f53) ?_)))
   refine val (x_move (.int .i64 v50) f54) ?_
   refine val (x_slTake (xs := v45) (k := 0) hO rfl sle61 rfl hle56 rfl (cutOk0 hok55)) ?_
   refine val (x_assign (.slice A46 (lcut v45 0 v50).length c47) rfl) ?_
   refine nil (W.ret ?_)
   obtain rfl := sj hm0
   exact ⟨[_], ⟨rfl, trivial⟩, H43, ol [(0, _)], ⟨_, _, _, rfl, hr59, rfl⟩, hO.row0 0 rfl⟩
end Go.Sw

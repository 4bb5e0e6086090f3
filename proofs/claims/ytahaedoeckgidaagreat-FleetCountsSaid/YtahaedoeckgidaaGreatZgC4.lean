/- The calls compute the mirrors. -/
import Derived.Test.YtahaedoeckgidaaGreatZgF
import Derived.Test.YtahaedoeckgidaaGreatZgC1
import Derived.Test.YtahaedoeckgidaaGreatZgC3
set_option linter.unusedVariables false
set_option linter.unusedSimpArgs false
set_option maxRecDepth 100000
namespace Go.Sw
open WL (val nil gval yes no)
open W (region test seq skip)
open WA (take)
open Go.Proofs.Tryz
open Go.Proofs
theorem slices_Clone_string_ok {w0 : World} {H0 : IHeap} (hS : Sub H0 w0) {p0 : List Str} {A1_ : Option Addr} {c1_ : Nat} (h1_ : RS eStr H0 A1_ c1_ p0) {res : List Str} (hm0 : slices_Clone_string p0 = some res) :
  OkO prog 71 [(.slice A1_ p0.length c1_)].toArray w0 H0 (fun H' O' v => ∃ (A : Option Addr) (c : Nat) (cs : List Value), v = .slice A res.length c ∧ Rows eStr H' cs res ∧ O' 0 = some (.row A c 9 eStr.size res.length cs)) := by
 obtain ⟨hl, hm0⟩ := chk hm0
 obtain rfl := sj hm0
 refine okO_of_W Tryz.func71 rfl Tryz.ntmps71 (rs := [.tmp 2]) rfl rfl ?_
 have hO := St.start hS
 refine seq (region (val (x_assign (.slice none 0 0) rfl) ?_))
 refine nil (seq (seq (region (val (x_move (.slice A1_ p0.length c1_) rfl) ?_))))
 refine val (x_eqlnil underlying55 rfl rfl) ?_
 refine nil (W.cond A1_.isNone rfl (fun hb => ?_) (fun hb => ?_))
 ·have hx := h1_.isNone hb
  subst hx
  refine seq (region (val (x_assign (.slice none 0 0) rfl) ?_))
  refine nil (W.ret ?_)
  have hO := hO.nilRowT (α := Str) 0 none 9 eStr
  exact ⟨[_], ⟨rfl, trivial⟩, H0, ol [(0, _)], ⟨_, _, _, rfl, Rows.nil, rfl⟩, hO.row0 0 rfl⟩
 ·refine skip (seq (region (o_litT (en := eStr) 0 [] ([] : List Str) hO sli55 trivial rfl rfl rfl ?_)))
  intro g cs w hr hO
  refine val (x_move (.slice A1_ p0.length c1_) rfl) ?_
  obtain ⟨ce, hs, hr2⟩ := RS.src h1_ hO
  have hm1 : (bif lim (([] : List Str).length + p0.length) then some () else none) = some () := by simp [hl]
  refine o_appT (en := eStr) (xs := ([] : List Str)) (ys := p0) 0 hO rfl hr rfl rfl hs hr2 sli55 rfl rfl underlying55 hm1 ?_
  intro A c cs w hr hO hm1
  refine val (x_assign (.slice A (([] : List Str) ++ p0).length c) rfl) ?_
  refine nil (W.ret ?_)
  exact ⟨[_], ⟨rfl, trivial⟩, H0, ol [(0, _)], ⟨_, _, _, rfl, hr, rfl⟩, hO.row0 0 rfl⟩
theorem bag_Put_ok {w0 : World} {H0 : IHeap} (hS : Sub H0 w0) {p0 : List Str} {p1 : Str}  {A1_ : Option Addr} {c1_ : Nat} (h1_ : RS eStr H0 A1_ c1_ p0) {res : (List Str)} (hm0 : bag_Put p0 p1 = some res) :
  Ok prog 103 [(.slice A1_ p0.length c1_), (vs p1)].toArray w0 H0 (fun H' v => ∃ (A1 : Option Addr) (c1 : Nat), v = (.slice A1 res.length c1) ∧ RS eStr H' A1 c1 res) := by
 unfold bag_Put at hm0
 refine ok_of_W Tryz.func103 rfl Tryz.ntmps103 (ts := [4]) rfl rfl rfl ?_
 have hO := St.start hS
 refine seq (region (val (x_assign (.slice none 0 0) rfl) ?_))
 refine nil (seq (region (val (x_move (.slice A1_ p0.length c1_) rfl) ?_)))
 obtain ⟨t1, ht2, hm0⟩ := bindSome hm0
 refine o_callO hO go71 (slices_Clone_string_ok hO.sub h1_ ht2) rfl ?_
 rintro _ H3 O11 w4 le5 ⟨A6, c7, cs8, rfl, hr9, hk10⟩ hO'
 have hO := hO.callRow hO' 0 0 _ hk10; clear hO'
 refine val (x_assign (.slice A6 t1.length c7) rfl) ?_
 refine nil (seq (seq (region (val (x_move (.slice A1_ p0.length c1_) rfl) ?_))))
 refine val (x_len rfl underlying55) ?_
 refine val (x_lss rfl rfl) ?_
 refine nil (test rfl hm0 ?_ ?_)
 ·intro hb12 hm0
  refine region (val (x_move (.slice A6 t1.length c7) rfl) ?_)
  refine val (x_move (vs p1) rfl) ?_
  refine o_litT (en := eStr) 1 [(vs p1)] ([p1] : List Str) hO sli55 ⟨rfl, trivial⟩ rfl rfl rfl ?_
  intro g13 cs14 w15 hr16 hO
  refine o_appT (en := eStr) (xs := t1) (ys := ([p1] : List Str)) 0 hO rfl hr9 rfl rfl (Src.row (k := 1) hO rfl) hr16 sli55 rfl rfl underlying55 hm0 ?_
  intro A17 c18 cs19 w20 hr21 hO hm0
  refine val (x_assign (.slice A17 (t1 ++ ([p1] : List Str)).length c18) rfl) ?_
  refine nil (seq (region (val (x_move (.slice A17 (t1 ++ ([p1] : List Str)).length c18) rfl) ?_)))
  refine val (x_assign (.slice A17 (t1 ++ ([p1] : List Str)).length c18) rfl) ?_
  refine nil (W.ret ?_)
  obtain ⟨H22, le23, h24, hO⟩ := hO.freezeRow (en := eStr) 0 rfl rfl rfl hr21
  obtain rfl := sj hm0
  exact ⟨H22, ⟨A17, c18, rfl, h24⟩, hO.done⟩
 ·intro hb12 hm0
  refine skip (seq (region (val (x_move (.slice A6 t1.length c7) rfl) ?_)))
  refine val (x_assign (.slice A6 t1.length c7) rfl) ?_
  refine nil (W.ret ?_)
  obtain ⟨H25, le26, h27, hO⟩ := hO.freezeRow (en := eStr) 0 rfl rfl rfl hr9
  obtain rfl := sj hm0
  exact ⟨H25, ⟨A6, c7, rfl, h27⟩, hO.done⟩
theorem fleet_Fleet_send_ok {w0 : World} {H0 : IHeap} {p0 : FleetFleet} {p1 : ApiMsg}  {g1_ : Nat} {cs2_ : List Value} {A4_ : Option Addr} {c5_ : Nat} {cs6_ : List Value} {A8_ : Option Addr} {c9_ : Nat} {cs10_ : List Value} {A12_ : Option Addr} {c12_ : Nat} {M : List Nat} (hO : St w0 H0 M H0 (ol [(0, .blk g1_ cs2_ 93), (1, .row A4_ c5_ 61 (eSl (eInt .i64)).size p0.answers.length cs6_), (2, .row A8_ c9_ 4 eBool.size p0.answered.length cs10_)]) w0) (h3_ : Enc.rep (eFleetFleet (.slice A4_ p0.answers.length c5_) (.slice A8_ p0.answered.length c9_)) H0 cs2_ p0) (h7_ : Rows (eSl (eInt .i64)) H0 cs6_ p0.answers) (h11_ : Rows eBool H0 cs10_ p0.answered) (h12_ : RS (eInt .i64) H0 A12_ c12_ p1.Vec) {res : FleetFleet} (hm0 : fleet_Fleet_send p0 p1 = some res) :
  OkM prog 51 [(.pointer (some ⟨g1_, 0, none⟩)), (.agg #[(.int .i64 p1.Kind), (.int .i64 p1.From), (.int .i64 p1.To), (.int .i64 p1.Seq), (.int .i64 p1.Batch), (.int .i64 p1.Layer), (.int .i64 p1.Token), (.int .i64 p1.Rank), (.int .i64 p1.Expert), (.int .i64 p1.Epoch), (.slice A12_ p1.Vec.length c12_)])].toArray w0 H0 M (fun H' O' v => ∃ (cs1 : List Value) (A1_0 : Option Addr) (c1_0 : Nat) (cs1_0 : List Value) (A1_1 : Option Addr) (c1_1 : Nat) (cs1_1 : List Value), v = (.tuple #[]) ∧ Enc.rep (eFleetFleet (.slice A1_0 res.answers.length c1_0) (.slice A1_1 res.answered.length c1_1)) H' cs1 res ∧ Rows (eSl (eInt .i64)) H' cs1_0 res.answers ∧ Rows eBool H' cs1_1 res.answered ∧ O' 0 = some (.blk g1_ cs1 93) ∧ O' 1 = some (.row A1_0 c1_0 61 (eSl (eInt .i64)).size res.answers.length cs1_0) ∧ O' 2 = some (.row A1_1 c1_1 4 eBool.size res.answered.length cs1_1)) := by
 unfold fleet_Fleet_send at hm0
 refine (okM_of_W Tryz.func51 rfl Tryz.ntmps51 (rs := []) rfl rfl ?_)
 refine seq (region (o_box 3 [(.int .i64 p1.Kind), (.int .i64 p1.From), (.int .i64 p1.To), (.int .i64 p1.Seq), (.int .i64 p1.Batch), (.int .i64 p1.Layer), (.int .i64 p1.Token), (.int .i64 p1.Rank), (.int .i64 p1.Expert), (.int .i64 p1.Epoch), (.slice A12_ p1.Vec.length c12_)] hO rfl ?_))
 intro g1 w2 hO
 refine nil (seq (region (val (x_lds 3 [(.int .i64 p1.Kind), (.int .i64 p1.From), (.int .i64 p1.To), (.int .i64 p1.Seq), (.int .i64 p1.Batch), (.int .i64 p1.Layer), (.int .i64 p1.Token), (.int .i64 p1.Rank), (.int .i64 p1.Expert), (.int .i64 p1.Epoch), (.slice A12_ p1.Vec.length c12_)] hO rfl rfl agg109 rfl rfl) ?_)))
 obtain ⟨t3, ht4, hm0⟩ := bindSome hm0
 refine o_call hO go102 (wire_Put_ok hO.sub h12_ ht4) rfl ?_
 rintro _ H5 w6 le7 rfl hO
 refine val (x_move (.tuple #[(vs t3.1), (.int .i64 t3.2)]) rfl) ?_
 refine val (x_extract (vs t3.1) rfl rfl) ?_
 refine val (x_extract (.int .i64 t3.2) rfl rfl) ?_
 refine val (x_assign (vs t3.1) rfl) ?_
 refine val (x_assign (.int .i64 t3.2) rfl) ?_
 refine nil (seq (region (val (x_move (.int .i64 t3.2) rfl) ?_)))
 refine val (x_eql rfl rfl) ?_
 refine nil (test rfl hm0 ?_ ?_)
 ·intro hb8 hm0
  refine region (val (x_move (.pointer (some ⟨g1_, 0, none⟩)) rfl) ?_)
  refine val (x_move (.pointer (some ⟨g1_, 0, none⟩)) rfl) ?_
  refine val (x_nilCheck rfl) ?_
  refine val (x_fa rfl fo93_3) ?_
  obtain ⟨cs9, hr10, hc11⟩ := lFleetFleet_bag.part _ _ _ (Enc.mono _ le7 h3_)
  obtain ⟨A12, c13, rfl, h14⟩ := hr10
  refine val (x_ld 0 (.slice A12 p0.bag.length c13) hO rfl rfl (hc11 0 _ rfl) one55) ?_
  refine val (x_move (vs t3.1) rfl) ?_
  obtain ⟨t15, ht16, hm0⟩ := bindSome hm0
  refine o_call hO go103 (bag_Put_ok hO.sub h14 ht16) rfl ?_
  rintro _ H17 w18 le19 ⟨A20, c21, rfl, h22⟩ hO
  refine val (x_nilCheck rfl) ?_
  refine val (x_fa rfl fo93_3) ?_
  refine o_stP 0 (.slice A20 t15.length c21) hO rfl (Enc.mono _ (le7.trans le19) h3_) lFleetFleet_bag rfl rfl rfl ⟨A20, c21, rfl, h22⟩ siz55 ?_
  intro cs23 w24 (hr25 : Enc.rep (eFleetFleet (.slice A4_ p0.answers.length c5_) (.slice A8_ p0.answered.length c9_)) H17 cs23 ({ p0 with bag := t15 } : FleetFleet)) hO
  refine nil ?_
  obtain rfl := sj hm0
  exact ⟨[], trivial, H17, _, ⟨cs23, A4_, c5_, cs6_, A8_, c9_, cs10_, rfl, hr25, (h7_.up (le7.trans le19)), (h11_.up (le7.trans le19)), rfl, rfl, rfl⟩, hO.relabel [(0, .blk g1_ cs23 93), (1, .row A4_ c5_ 61 (eSl (eInt .i64)).size p0.answers.length cs6_), (2, .row A8_ c9_ 4 eBool.size p0.answered.length cs10_)] ⟨rfl, rfl, rfl, trivial⟩ (names_nd (ns := [0, 1, 2]) rfl (by decide))⟩
 ·intro hb8 hm0
  refine skip ?_
  obtain rfl := sj hm0
  exact ⟨[], trivial, H5, _, ⟨cs2_, A4_, c5_, cs6_, A8_, c9_, cs10_, rfl, (Enc.mono _ le7 h3_), (h7_.up le7), (h11_.up le7), rfl, rfl, rfl⟩, hO.relabel [(0, .blk g1_ cs2_ 93), (1, .row A4_ c5_ 61 (eSl (eInt .i64)).size p0.answers.length cs6_), (2, .row A8_ c9_ 4 eBool.size p0.answered.length cs10_)] ⟨rfl, rfl, rfl, trivial⟩ (names_nd (ns := [0, 1, 2]) rfl (by decide))⟩
theorem place_Pick_ok {w0 : World} {H0 : IHeap} (hS : Sub H0 w0) {p0 : PlaceMap} {p1 : Int} {p2 : Int}  {A1_ : Option Addr} {c1_ : Nat} (h1_ : RS (eSl (eInt .i64)) H0 A1_ c1_ p0.Holders) {res : Int × Bool} (hm0 : place_Pick p0 p1 p2 = some res) :
  Ok prog 72 [(.agg #[(.int .i64 p0.Epoch), (.slice A1_ p0.Holders.length c1_)]), (.int .i64 p1), (.int .i64 p2)].toArray w0 H0 (fun H' v => v = (.tuple #[(.int .i64 res.1), (.bool res.2)])) := by
 unfold place_Pick at hm0
 refine ok_of_W Tryz.func72 rfl Tryz.ntmps72 (ts := [6, 7]) rfl rfl rfl ?_
 have hO := St.start hS
 refine seq (region (o_box 0 [(.int .i64 p0.Epoch), (.slice A1_ p0.Holders.length c1_)] hO rfl ?_))
 intro g1 w2 hO
 refine val (x_assign (.int .i64 0) rfl) ?_
 refine val (x_assign (.bool false) rfl) ?_
 refine nil (seq (seq (region (val (x_lds 0 [(.int .i64 p0.Epoch), (.slice A1_ p0.Holders.length c1_)] hO rfl rfl agg27 rfl rfl) ?_))))
 obtain ⟨t3, ht4, hm0⟩ := bindSome hm0
 refine o_call hO go36 (place_Right_ok hO.sub h1_ ht4) rfl ?_
 rintro _ H5 w6 le7 rfl hO
 refine val (x_not rfl) ?_
 refine val (x_move (.bool (!t3)) rfl) ?_
 refine gval rfl rfl (fun hb => x_move (.int .i64 p1) rfl) ?_
 refine gval rfl rfl (fun hb => x_lss (gv hb) rfl) ?_
 refine val (x_pick rfl (.bool ((!t3) || (decide (p1 < 0)))) pick_or) ?_
 refine val (x_move (.bool ((!t3) || (decide (p1 < 0)))) rfl) ?_
 refine gval rfl rfl (fun hb => x_move (.int .i64 p1) rfl) ?_
 refine gval rfl rfl (fun hb => x_fa rfl fo27_1) ?_
 refine gval rfl rfl (fun hb => x_ld 0 (.slice A1_ p0.Holders.length c1_) hO rfl (gv hb) rfl one25) ?_
 refine gval rfl rfl (fun hb => x_len (gv hb) underlying25) ?_
 refine gval rfl rfl (fun hb => x_geq (gv hb) (gv hb)) ?_
 refine val (x_pick rfl (.bool (((!t3) || (decide (p1 < 0))) || (decide ((p0.Holders.length : Int) ≤ p1)))) pick_or) ?_
 refine val (x_move (.bool (((!t3) || (decide (p1 < 0))) || (decide ((p0.Holders.length : Int) ≤ p1)))) rfl) ?_
 refine gval rfl rfl (fun hb => x_move (.int .i64 p2) rfl) ?_
 refine gval rfl rfl (fun hb => x_lss (gv hb) rfl) ?_
 refine val (x_pick rfl (.bool ((((!t3) || (decide (p1 < 0))) || (decide ((p0.Holders.length : Int) ≤ p1))) || (decide (p2 < 0)))) pick_or) ?_
 refine nil (test rfl hm0 ?_ ?_)
 ·intro hb8 hm0
  refine seq (region (val (x_assign (.int .i64 0) rfl) ?_))
  refine val (x_assign (.bool false) rfl) ?_
  refine nil (W.ret ?_)
  obtain rfl := sj hm0
  exact ⟨H5, rfl, hO.done⟩
 ·intro hb8 hm0
  refine skip (seq (region (val (x_fa rfl fo27_1) ?_)))
  refine val (x_ld 0 (.slice A1_ p0.Holders.length c1_) hO rfl rfl rfl one25) ?_
  refine val (x_move (.int .i64 p1) rfl) ?_
  obtain ⟨hin12, hm0⟩ := chk hm0
  obtain ⟨a9, h10, hA11⟩ := RS.at_ (h1_.up le7) hin12
  refine val (x_ia (sA rfl hA11) rfl sle25 hin12) ?_
  obtain ⟨A13, c14, h15, hc16⟩ := At.sl h10
  refine val (x_ldc rfl (hc16 _ hO.sub) one61) ?_
  refine val (x_assign (.slice A13 (at0 p0.Holders p1).length c14) rfl) ?_
  refine nil (seq (region (val (x_move (.slice A13 (at0 p0.Holders p1).length c14) rfl) ?_)))
  refine val (x_move (.int .i64 p2) rfl) ?_
  refine val (x_move (.slice A13 (at0 p0.Holders p1).length c14) rfl) ?_
  refine val (x_len rfl underlying61) ?_
  obtain ⟨hz17, hm0⟩ := chk hm0
  refine val (x_rem rfl rfl (nz hz17)) ?_
  obtain ⟨hin21, hm0⟩ := chk hm0
  obtain ⟨a18, h19, hA20⟩ := RS.at_ h15 hin21
  refine val (x_ia (sA rfl hA20) rfl sle61 hin21) ?_
  refine val (x_ldc rfl (h19.int _ hO.sub) one3) ?_
  refine val (x_assign (.int .i64 (at0 (at0 p0.Holders p1) (Int.tmod p2 ((at0 p0.Holders p1).length : Int)))) rfl) ?_
  refine val (x_assign (.bool true) rfl) ?_
  refine nil (W.ret ?_)
  obtain rfl := sj hm0
  exact ⟨H5, rfl, hO.done⟩
theorem fleet_Fleet_Ask_ok {w0 : World} {H0 : IHeap} {p0 : FleetFleet}  {g1_ : Nat} {cs2_ : List Value} {A4_ : Option Addr} {c5_ : Nat} {cs6_ : List Value} {A8_ : Option Addr} {c9_ : Nat} {cs10_ : List Value} {M : List Nat} (hO : St w0 H0 M H0 (ol [(0, .blk g1_ cs2_ 93), (1, .row A4_ c5_ 61 (eSl (eInt .i64)).size p0.answers.length cs6_), (2, .row A8_ c9_ 4 eBool.size p0.answered.length cs10_)]) w0) (h3_ : Enc.rep (eFleetFleet (.slice A4_ p0.answers.length c5_) (.slice A8_ p0.answered.length c9_)) H0 cs2_ p0) (h7_ : Rows (eSl (eInt .i64)) H0 cs6_ p0.answers) (h11_ : Rows eBool H0 cs10_ p0.answered) {res : FleetFleet} (hm0 : fleet_Fleet_Ask p0 = some res) :
  OkM prog 29 [(.pointer (some ⟨g1_, 0, none⟩))].toArray w0 H0 M (fun H' O' v => ∃ (cs1 : List Value) (A1_0 : Option Addr) (c1_0 : Nat) (cs1_0 : List Value) (A1_1 : Option Addr) (c1_1 : Nat) (cs1_1 : List Value), v = (.tuple #[]) ∧ Enc.rep (eFleetFleet (.slice A1_0 res.answers.length c1_0) (.slice A1_1 res.answered.length c1_1)) H' cs1 res ∧ Rows (eSl (eInt .i64)) H' cs1_0 res.answers ∧ Rows eBool H' cs1_1 res.answered ∧ O' 0 = some (.blk g1_ cs1 93) ∧ O' 1 = some (.row A1_0 c1_0 61 (eSl (eInt .i64)).size res.answers.length cs1_0) ∧ O' 2 = some (.row A1_1 c1_1 4 eBool.size res.answered.length cs1_1)) := by
 unfold fleet_Fleet_Ask at hm0
 refine (okM_of_W Tryz.func29 rfl Tryz.ntmps29 (rs := []) rfl rfl ?_)
 refine seq (seq ?_)
 have hO := hO.pick [(0, .blk g1_ cs2_ 93), (1, .row A4_ c5_ 61 (eSl (eInt .i64)).size p0.answers.length cs6_), (2, .row A8_ c9_ 4 eBool.size p0.answered.length cs10_)] ⟨rfl, rfl, rfl, trivial⟩
 refine W.draw (SD w0 H0 M H0 [(0, .blk g1_ cs2_ 93)]) (fun i => ([] : List Nat).contains i) mixed 11 rfl _ rfl ?_
 intro w1 hh1 hh2 hh3 hh4; have hO := hO.same hh1 hh2 hh3 hh4; clear hh1 hh2 hh3 hh4
 have hS : SD w0 H0 M H0 [(0, .blk g1_ cs2_ 93)] w1 := ⟨_, _, Le.refl _, hO, ⟨rfl, trivial⟩⟩
 refine take (i := 0) rfl (by kernel_rfl) (fun w hS => x_move (.pointer (some ⟨g1_, 0, none⟩)) rfl) hS ?_
 refine take (i := 1) rfl (by kernel_rfl) (fun w hS => x_nilCheck rfl) hS ?_
 refine take (i := 2) rfl (by kernel_rfl) (fun w hS => x_fa rfl fo93_5) hS ?_
 obtain ⟨cs2, hr3, hc4⟩ := lFleetFleet_at_.part _ _ _ h3_
 obtain rfl := hr3
 refine take (i := 3) rfl (by kernel_rfl) (fun w hS => x_ldD 0 (.int .i64 p0.at_) hS rfl rfl (hc4 0 _ rfl) one3) hS ?_
 refine take (i := 4) rfl (by kernel_rfl) (fun w hS => x_move (.pointer (some ⟨g1_, 0, none⟩)) rfl) hS ?_
 refine take (i := 5) rfl (by kernel_rfl) (fun w hS => x_nilCheck rfl) hS ?_
 refine take (i := 6) rfl (by kernel_rfl) (fun w hS => x_fa rfl fo93_0) hS ?_
 refine take (i := 7) rfl (by kernel_rfl) (fun w hS => x_fa rfl fo24_1) hS ?_
 obtain ⟨cs5, hr6, hc7⟩ := (Part.comp lFleetFleet_m.part pApiModel_Layers) _ _ _ h3_
 obtain ⟨A8, c9, rfl, h10⟩ := hr6
 refine take (i := 8) rfl (by kernel_rfl) (fun w hS => x_ldD 0 (.slice A8 p0.m.Layers.length c9) hS rfl rfl (hc7 0 _ rfl) one22) hS ?_
 refine take (i := 9) rfl (by kernel_rfl) (fun w hS => x_len rfl underlying22) hS ?_
 refine take (i := 10) rfl (by kernel_rfl) (fun w hS => x_geq rfl rfl) hS ?_
 refine WA.done (by kernel_rfl) ?_
 refine test rfl hm0 ?_ ?_
 ·intro hb11 hm0
  refine W.ret ?_
  obtain rfl := sj hm0
  exact ⟨[], trivial, H0, _, ⟨cs2_, A4_, c5_, cs6_, A8_, c9_, cs10_, rfl, h3_, h7_, h11_, rfl, rfl, rfl⟩, hO.relabel [(0, .blk g1_ cs2_ 93), (1, .row A4_ c5_ 61 (eSl (eInt .i64)).size p0.answers.length cs6_), (2, .row A8_ c9_ 4 eBool.size p0.answered.length cs10_)] ⟨rfl, rfl, rfl, trivial⟩ (names_nd (ns := [0, 1, 2]) rfl (by decide))⟩
 ·intro hb11 hm0
  refine skip (seq (region (val (x_move (.pointer (some ⟨g1_, 0, none⟩)) rfl) ?_)))
  refine val (x_nilCheck rfl) ?_
  refine val (x_fa rfl fo93_6) ?_
  obtain ⟨cs12, hr13, hc14⟩ := lFleetFleet_parts.part _ _ _ h3_
  obtain ⟨A15, c16, rfl, h17⟩ := hr13
  refine val (x_ld 0 (.slice A15 p0.parts.length c16) hO rfl rfl (hc14 0 _ rfl) one90) ?_
  refine val (x_len rfl underlying90) ?_
  refine val (x_move (.int .i64 0) rfl) ?_
  refine nil ?_
  obtain ⟨o18, hm1, hm0⟩ := bindSome hm0
  have hO := hO.pick [(0, .blk g1_ cs2_ 93), (1, .row A4_ c5_ 61 (eSl (eInt .i64)).size p0.answers.length cs6_), (2, .row A8_ c9_ 4 eBool.size p0.answered.length cs10_)] ⟨rfl, rfl, rfl, trivial⟩
  refine W.blockLoop (fun r w => ∃ (v24 : FleetFleet) (cs25 : List Value) (A27 : Option Addr) (c28 : Nat) (cs29 : List Value) (A31 : Option Addr) (c32 : Nat) (cs33 : List Value) (i21 : Nat) (H19 : IHeap), v24 = o18 ∧ Le H0 H19 ∧ St w0 H0 M H19 (ol [(0, .blk g1_ cs25 93), (1, .row A27 c28 61 (eSl (eInt .i64)).size v24.answers.length cs29), (2, .row A31 c32 4 eBool.size v24.answered.length cs33)]) w ∧ Enc.rep (eFleetFleet (.slice A27 v24.answers.length c28) (.slice A31 v24.answered.length c32)) H19 cs25 v24 ∧ Rows (eSl (eInt .i64)) H19 cs29 v24.answers ∧ Rows eBool H19 cs33 v24.answered) (fun k r w => ∃ (i21 : Nat) (rest22 : List ModelPart) (v24 : FleetFleet) (cs25 : List Value) (A27 : Option Addr) (c28 : Nat) (cs29 : List Value) (A31 : Option Addr) (c32 : Nat) (cs33 : List Value) (H19 : IHeap), k = rest22.length ∧ List.drop i21 p0.parts = rest22 ∧ fleet_Fleet_Ask_l1 rest22 i21 v24 = some o18 ∧ Le H0 H19 ∧ St w0 H0 M H19 (ol [(0, .blk g1_ cs25 93), (1, .row A27 c28 61 (eSl (eInt .i64)).size v24.answers.length cs29), (2, .row A31 c32 4 eBool.size v24.answered.length cs33)]) w ∧ r 0 = (.pointer (some ⟨g1_, 0, none⟩)) ∧ r 20 = (.slice A15 p0.parts.length c16) ∧ r 21 = (.int .i64 (p0.parts.length : Int)) ∧ r 22 = (.int .i64 (i21 : Int)) ∧ Enc.rep (eFleetFleet (.slice A27 v24.answers.length c28) (.slice A31 v24.answered.length c32)) H19 cs25 v24 ∧ Rows (eSl (eInt .i64)) H19 cs29 v24.answers ∧ Rows eBool H19 cs33 v24.answered) (List.length p0.parts) ?_ ?_ ?_
  ·exact ⟨0, _, p0, cs2_, A4_, c5_, cs6_, A8_, c9_, cs10_, _, rfl, rfl, hm1, Le.refl _, hO, rfl, rfl, rfl, rfl, h3_, h7_, h11_⟩
  ·
   intro k r w
   rintro ⟨i21, rest22, v24, cs25, A27, c28, cs29, A31, c32, cs33, H19, rfl, hd35, hm1, le20, hO, f0_1, f20_1, f21_1, f22_1, h26, h30, h34⟩
   cases rest22 with
   | nil =>
    rw [fleet_Fleet_Ask_l1] at hm1
    have hlt := drop_nil hd35
    refine seq (region (val (x_lss f22_1 f21_1) ?_))
    refine nil (seq (W.cond_f (kb rfl hlt) ?_))
    refine W.exit _ rfl ?_
    obtain rfl := sj hm1
    exact ⟨v24, cs25, A27, c28, cs29, A31, c32, cs33, i21, H19, rfl, le20, hO.pick _ ⟨rfl, rfl, rfl, trivial⟩, h26, h30, h34⟩
   | cons x23 rest22 =>
    rw [fleet_Fleet_Ask_l1] at hm1
    have hlt := drop_lt hd35
    have hnx := drop_next hd35
    have hinc := inc_len hlt h17.1 h17.2.1
    refine seq (region (val (x_lss f22_1 f21_1) ?_))
    refine nil (seq (W.cond_t (kb rfl hlt) ?_))
    refine skip (seq (W.block ?_))
    refine seq (region (val (x_move (.int .i64 (i21 : Int)) f22_1) ?_))
    obtain ⟨a36, h37, hA38, hin⟩ := RS.atR (h17.up le20) hd35
    refine val (x_ia (sA f20_1 hA38) f22_1 sle90 hin) ?_
    obtain ⟨cs39, hr40, hc41⟩ := At.agg h37
    obtain rfl := hr40
    refine val (x_ldv rfl (hc41 _ _ _ hO.sub agg145)) ?_
    refine o_alloc 3 _ [(.int .i64 0), (.int .i64 0), (.int .i64 0), (.int .i64 0)] zer145 hO rfl ?_
    intro g42 w43 hO
    refine val (x_assign (.int .i64 (i21 : Int)) rfl) ?_
    refine o_sts 3 [(.int .i64 x23.Token), (.int .i64 x23.Rank), (.int .i64 x23.Expert), (.int .i64 x23.Weight)] hO rfl rfl rfl siz145 rfl (Nat.le_of_ble_eq_true rfl) (by simp [Value.oneCell', vs]) ?_
    intro w44 hO
    refine nil (seq (seq (region (val (x_move (.pointer (some ⟨g1_, 0, none⟩)) f0_1) ?_))))
    refine val (x_nilCheck rfl) ?_
    refine val (x_fa rfl fo93_8) ?_
    refine val (x_ld 0 (.slice A31 v24.answered.length c32) hO rfl rfl (gFleetFleet_answered h26) one91) ?_
    refine val (x_move (.int .i64 (i21 : Int)) rfl) ?_
    obtain ⟨hin45, hm1⟩ := chk hm1
    obtain ⟨hc46, g47, o48, hA49⟩ := hO.rowA (k := 2) rfl hin45
    refine val (x_ia (sA rfl hA49) rfl sle91 hin45) ?_
    obtain ⟨cs50, hr51, hc52⟩ := row_elem (en := eBool) (k := 2) hO rfl h34 hc46 hA49 (at0_some hin45)
    obtain rfl := hr51
    refine val (x_ldc rfl (by rw [addr_add]; exact hc52 0 _ rfl) one4) ?_
    refine nil (test rfl hm1 ?_ ?_)
    ·intro hb53 hm1
     refine W.exit _ rfl ?_
     refine region (val (x_add f22_1 rfl) ?_)
     refine val (x_move (.int .i64 (i64w ((i21 : Int) + 1))) rfl) ?_
     refine nil ?_
     exact ⟨_, Nat.lt_succ_self _, i21 + 1, rest22, v24, cs25, A27, c28, cs29, A31, c32, cs33, H19, rfl, hnx, hm1, le20, hO.pick _ ⟨rfl, rfl, rfl, trivial⟩, f0_1, f20_1, f21_1, (incv hinc), h26, h30, h34⟩
    ·intro hb53 hm1
     refine skip (seq ?_)
     have hO := hO.pick [(0, .blk g1_ cs25 93), (3, .blk g42 [(.int .i64 x23.Token), (.int .i64 x23.Rank), (.int .i64 x23.Expert), (.int .i64 x23.Weight)] 145), (1, .row A27 c28 61 (eSl (eInt .i64)).size v24.answers.length cs29), (2, .row A31 c32 4 eBool.size v24.answered.length cs33)] ⟨rfl, rfl, rfl, rfl, trivial⟩
     refine W.draw (SD w0 H0 M H19 [(0, .blk g1_ cs25 93), (3, .blk g42 [(.int .i64 x23.Token), (.int .i64 x23.Rank), (.int .i64 x23.Expert), (.int .i64 x23.Weight)] 145)]) (fun i => ([] : List Nat).contains i) mixed 17 rfl _ rfl ?_
     intro w54 hh1 hh2 hh3 hh4; have hO := hO.same hh1 hh2 hh3 hh4; clear hh1 hh2 hh3 hh4
     have hS : SD w0 H0 M H19 [(0, .blk g1_ cs25 93), (3, .blk g42 [(.int .i64 x23.Token), (.int .i64 x23.Rank), (.int .i64 x23.Expert), (.int .i64 x23.Weight)] 145)] w54 := ⟨_, _, Le.refl _, hO, ⟨rfl, rfl, trivial⟩⟩
     refine take (i := 0) rfl (by kernel_rfl) (fun w hS => x_move (.pointer (some ⟨g1_, 0, none⟩)) f0_1) hS ?_
     refine take (i := 1) rfl (by kernel_rfl) (fun w hS => x_nilCheck rfl) hS ?_
     refine take (i := 2) rfl (by kernel_rfl) (fun w hS => x_fa rfl fo93_1) hS ?_
     obtain ⟨cs55, hr56, hc57⟩ := lFleetFleet_p.part _ _ _ h26
     obtain ⟨A58, c59, rfl, h60⟩ := hr56
     refine take (i := 3) rfl (by kernel_rfl) (fun w hS => x_ldsD 0 [(.int .i64 v24.p.Epoch), (.slice A58 v24.p.Holders.length c59)] hS rfl rfl agg27 (take_of_part hc57 rfl) rfl) hS ?_
     refine take (i := 4) rfl (by kernel_rfl) (fun w hS => x_fa rfl fo145_2) hS ?_
     refine take (i := 5) rfl (by kernel_rfl) (fun w hS => x_ldD 3 (.int .i64 x23.Expert) hS rfl rfl rfl one3) hS ?_
     refine take (i := 6) rfl (by kernel_rfl) (fun w hS => x_fa rfl fo145_0) hS ?_
     refine take (i := 7) rfl (by kernel_rfl) (fun w hS => x_ldD 3 (.int .i64 x23.Token) hS rfl rfl rfl one3) hS ?_
     refine take (i := 8) rfl (by kernel_rfl) (fun w hS => x_fa rfl fo145_1) hS ?_
     refine take (i := 9) rfl (by kernel_rfl) (fun w hS => x_ldD 3 (.int .i64 x23.Rank) hS rfl rfl rfl one3) hS ?_
     refine take (i := 10) rfl (by kernel_rfl) (fun w hS => x_add rfl rfl) hS ?_
     refine WA.only (i := 11) (by kernel_rfl) rfl ?_
     obtain ⟨t61, ht62, hm1⟩ := bindSome hm1
     refine o_call hO go72 (place_Pick_ok hO.sub h60 ht62) rfl ?_
     rintro _ H63 w64 le65 rfl hO
     have hS : SD w0 H0 M H19 [(0, .blk g1_ cs25 93), (3, .blk g42 [(.int .i64 x23.Token), (.int .i64 x23.Rank), (.int .i64 x23.Expert), (.int .i64 x23.Weight)] 145)] _ := ⟨_, _, le65, hO, ⟨rfl, rfl, trivial⟩⟩
     refine nil ⟨fun _ => hS, ?_⟩
     refine take (i := 12) rfl (by kernel_rfl) (fun w hS => x_move (.tuple #[(.int .i64 t61.1), (.bool t61.2)]) rfl) hS ?_
     refine take (i := 13) rfl (by kernel_rfl) (fun w hS => x_extract (.int .i64 t61.1) rfl rfl) hS ?_
     refine take (i := 14) rfl (by kernel_rfl) (fun w hS => x_extract (.bool t61.2) rfl rfl) hS ?_
     refine take (i := 15) rfl (by kernel_rfl) (fun w hS => x_assign (.int .i64 t61.1) rfl) hS ?_
     refine take (i := 16) rfl (by kernel_rfl) (fun w hS => x_assign (.bool t61.2) rfl) hS ?_
     refine WA.done (by kernel_rfl) ?_
     have hO := hO.pick [(0, .blk g1_ cs25 93), (3, .blk g42 [(.int .i64 x23.Token), (.int .i64 x23.Rank), (.int .i64 x23.Expert), (.int .i64 x23.Weight)] 145), (1, .row A27 c28 61 (eSl (eInt .i64)).size v24.answers.length cs29), (2, .row A31 c32 4 eBool.size v24.answered.length cs33)] ⟨rfl, rfl, rfl, rfl, trivial⟩
     refine W.draw (SD w0 H0 M H63 [(0, .blk g1_ cs25 93), (3, .blk g42 [(.int .i64 x23.Token), (.int .i64 x23.Rank), (.int .i64 x23.Expert), (.int .i64 x23.Weight)] 145)]) (fun i => ([26] : List Nat).contains i) mixed 27 rfl _ rfl ?_
     intro w66 hh1 hh2 hh3 hh4; have hO := hO.same hh1 hh2 hh3 hh4; clear hh1 hh2 hh3 hh4
     have hS : SD w0 H0 M H63 [(0, .blk g1_ cs25 93), (3, .blk g42 [(.int .i64 x23.Token), (.int .i64 x23.Rank), (.int .i64 x23.Expert), (.int .i64 x23.Weight)] 145)] w66 := ⟨_, _, Le.refl _, hO, ⟨rfl, rfl, trivial⟩⟩
     refine take (i := 0) rfl (by kernel_rfl) (fun w hS => x_move (.pointer (some ⟨g1_, 0, none⟩)) f0_1) hS ?_
     refine take (i := 1) rfl (by kernel_rfl) (fun w hS => x_move (.int .i64 t61.1) rfl) hS ?_
     refine take (i := 2) rfl (by kernel_rfl) (fun w hS => x_move (.pointer (some ⟨g1_, 0, none⟩)) f0_1) hS ?_
     refine take (i := 3) rfl (by kernel_rfl) (fun w hS => x_nilCheck rfl) hS ?_
     refine take (i := 4) rfl (by kernel_rfl) (fun w hS => x_fa rfl fo93_5) hS ?_
     obtain ⟨cs67, hr68, hc69⟩ := lFleetFleet_at_.part _ _ _ (Enc.mono _ le65 h26)
     obtain rfl := hr68
     refine take (i := 5) rfl (by kernel_rfl) (fun w hS => x_ldD 0 (.int .i64 v24.at_) hS rfl rfl (hc69 0 _ rfl) one3) hS ?_
     refine take (i := 6) rfl (by kernel_rfl) (fun w hS => x_fa rfl fo145_0) hS ?_
     refine take (i := 7) rfl (by kernel_rfl) (fun w hS => x_ldD 3 (.int .i64 x23.Token) hS rfl rfl rfl one3) hS ?_
     refine take (i := 8) rfl (by kernel_rfl) (fun w hS => x_fa rfl fo145_1) hS ?_
     refine take (i := 9) rfl (by kernel_rfl) (fun w hS => x_ldD 3 (.int .i64 x23.Rank) hS rfl rfl rfl one3) hS ?_
     refine take (i := 10) rfl (by kernel_rfl) (fun w hS => x_fa rfl fo145_2) hS ?_
     refine take (i := 11) rfl (by kernel_rfl) (fun w hS => x_ldD 3 (.int .i64 x23.Expert) hS rfl rfl rfl one3) hS ?_
     refine take (i := 12) rfl (by kernel_rfl) (fun w hS => x_move (.pointer (some ⟨g1_, 0, none⟩)) f0_1) hS ?_
     refine take (i := 13) rfl (by kernel_rfl) (fun w hS => x_nilCheck rfl) hS ?_
     refine take (i := 14) rfl (by kernel_rfl) (fun w hS => x_fa rfl fo93_1) hS ?_
     refine take (i := 15) rfl (by kernel_rfl) (fun w hS => x_fa rfl fo27_0) hS ?_
     obtain ⟨cs70, hr71, hc72⟩ := (Part.comp lFleetFleet_p.part pPlaceMap_Epoch) _ _ _ (Enc.mono _ le65 h26)
     obtain rfl := hr71
     refine take (i := 16) rfl (by kernel_rfl) (fun w hS => x_ldD 0 (.int .i64 v24.p.Epoch) hS rfl rfl (hc72 0 _ rfl) one3) hS ?_
     refine take (i := 17) rfl (by kernel_rfl) (fun w hS => x_move (.pointer (some ⟨g1_, 0, none⟩)) f0_1) hS ?_
     refine take (i := 18) rfl (by kernel_rfl) (fun w hS => x_nilCheck rfl) hS ?_
     refine take (i := 19) rfl (by kernel_rfl) (fun w hS => x_fa rfl fo93_4) hS ?_
     obtain ⟨cs73, hr74, hc75⟩ := lFleetFleet_tokens.part _ _ _ (Enc.mono _ le65 h26)
     obtain ⟨A76, c77, rfl, h78⟩ := hr74
     refine take (i := 20) rfl (by kernel_rfl) (fun w hS => x_ldD 0 (.slice A76 v24.tokens.length c77) hS rfl rfl (hc75 0 _ rfl) one25) hS ?_
     refine take (i := 21) rfl (by kernel_rfl) (fun w hS => x_fa rfl fo145_0) hS ?_
     refine take (i := 22) rfl (by kernel_rfl) (fun w hS => x_ldD 3 (.int .i64 x23.Token) hS rfl rfl rfl one3) hS ?_
     obtain ⟨hin82, hm1⟩ := chk hm1
     obtain ⟨a79, h80, hA81⟩ := RS.at_ h78 hin82
     refine take (i := 23) rfl (by kernel_rfl) (fun w hS => x_ia (sA rfl hA81) rfl sle25 hin82) hS ?_
     obtain ⟨A83, c84, h85, hc86⟩ := At.sl h80
     refine take (i := 24) rfl (by kernel_rfl) (fun w hS => x_ldc rfl (hc86 _ hS.sub) one61) hS ?_
     refine take (i := 25) rfl (by kernel_rfl) (fun w hS => x_build [(0, (.int .i64 1)), (2, (.int .i64 t61.1)), (4, (.int .i64 1)), (5, (.int .i64 v24.at_)), (6, (.int .i64 x23.Token)), (7, (.int .i64 x23.Rank)), (8, (.int .i64 x23.Expert)), (9, (.int .i64 v24.p.Epoch)), (10, (.slice A83 (at0 v24.tokens x23.Token).length c84))] [(.int .i64 1), (.int .i64 0), (.int .i64 t61.1), (.int .i64 0), (.int .i64 1), (.int .i64 v24.at_), (.int .i64 x23.Token), (.int .i64 x23.Rank), (.int .i64 x23.Expert), (.int .i64 v24.p.Epoch), (.slice A83 (at0 v24.tokens x23.Token).length c84)] ⟨rfl, rfl, rfl, rfl, rfl, rfl, rfl, rfl, rfl, rfl, rfl, rfl, rfl, rfl, rfl, rfl, rfl, rfl, trivial⟩ (by kernel_rfl)) hS ?_
     refine WA.only (i := 26) (by kernel_rfl) rfl ?_
     obtain ⟨t87, ht88, hm1⟩ := bindSome hm1
     refine o_callL (args := [(.pointer (some ⟨g1_, 0, none⟩)), (.agg #[(.int .i64 1), (.int .i64 0), (.int .i64 t61.1), (.int .i64 0), (.int .i64 1), (.int .i64 v24.at_), (.int .i64 x23.Token), (.int .i64 x23.Rank), (.int .i64 x23.Expert), (.int .i64 v24.p.Epoch), (.slice A83 (at0 v24.tokens x23.Token).length c84)])]) [(0, .blk g1_ cs25 93), (1, .row A27 c28 61 (eSl (eInt .i64)).size v24.answers.length cs29), (2, .row A31 c32 4 eBool.size v24.answered.length cs33)] hO ⟨rfl, rfl, rfl, trivial⟩ (names_nd (ns := [0, 1, 2]) rfl (by decide)) go51 (fleet_Fleet_send_ok (p0 := v24) (p1 := (⟨1, 0, t61.1, 0, 1, v24.at_, x23.Token, x23.Rank, x23.Expert, v24.p.Epoch, (at0 v24.tokens x23.Token)⟩ : ApiMsg)) (hO.enterL [(0, .blk g1_ cs25 93), (1, .row A27 c28 61 (eSl (eInt .i64)).size v24.answers.length cs29), (2, .row A31 c32 4 eBool.size v24.answered.length cs33)] ⟨rfl, rfl, rfl, trivial⟩ (names_nd (ns := [0, 1, 2]) rfl (by decide))) (Enc.mono _ le65 h26) (h30.up le65) (h34.up le65) h85 ht88) rfl ?_
     rintro _ H89 O92 w90 le91 ⟨cs93, A96, c97, cs98, A101, c102, cs103, rfl, h94, h99, h104, hk95, hk100, hk105⟩ hO
     have hO := hO.named [.blk g1_ cs93 93, .row A96 c97 61 (eSl (eInt .i64)).size t87.answers.length cs98, .row A101 c102 4 eBool.size t87.answered.length cs103] ⟨hk95, hk100, hk105, trivial⟩
     refine nil ⟨fun h => absurd h (by decide), ?_⟩
     refine WA.done (by kernel_rfl) ?_
     refine region (val (x_add f22_1 rfl) ?_)
     refine val (x_move (.int .i64 (i64w ((i21 : Int) + 1))) rfl) ?_
     refine nil ?_
     exact ⟨_, Nat.lt_succ_self _, i21 + 1, rest22, t87, cs93, A96, c97, cs98, A101, c102, cs103, H89, rfl, hnx, hm1, (le20.trans (le65.trans le91)), hO.pick _ ⟨rfl, rfl, rfl, trivial⟩, f0_1, f20_1, f21_1, (incv hinc), h94, h99, h104⟩
  ·intro r w
   rintro ⟨v108, cs109, A111, c112, cs113, A115, c116, cs117, i119, H106, rfl, le107, hO, h110, h114, h118⟩
   obtain rfl := sj hm0
   exact ⟨[], trivial, H106, _, ⟨cs109, A111, c112, cs113, A115, c116, cs117, rfl, h110, h114, h118, rfl, rfl, rfl⟩, hO.relabel [(0, .blk g1_ cs109 93), (1, .row A111 c112 61 (eSl (eInt .i64)).size v108.answers.length cs113), (2, .row A115 c116 4 eBool.size v108.answered.length cs117)] ⟨rfl, rfl, rfl, trivial⟩ (names_nd (ns := [0, 1, 2]) rfl (by decide))⟩
theorem fix_Add_ok {w0 : World} {H0 : IHeap} (hS : Sub H0 w0) {p0 : Int} {p1 : Int}    {res : Int} (hm0 : fix_Add p0 p1 = some res) :
  Ok prog 155 [(.int .i64 p0), (.int .i64 p1)].toArray w0 H0 (fun H' v => v = (.int .i64 res)) := by
 unfold fix_Add at hm0
 refine ok_of_W Tryz.func155 rfl Tryz.ntmps155 (ts := [4]) rfl rfl rfl ?_
 have hO := St.start hS
 refine seq (region (val (x_assign (.int .i64 0) rfl) ?_))
 refine nil (seq (region (val (x_move (.int .i64 p0) rfl) ?_)))
 obtain ⟨t1, ht2, hm0⟩ := bindSome hm0
 refine o_call hO go79 (fix_Hold_ok hO.sub  ht2) rfl ?_
 rintro _ H3 w4 le5 rfl hO
 refine val (x_move (.int .i64 p1) rfl) ?_
 obtain ⟨t6, ht7, hm0⟩ := bindSome hm0
 refine o_call hO go79 (fix_Hold_ok hO.sub  ht7) rfl ?_
 rintro _ H8 w9 le10 rfl hO
 refine val (x_add rfl rfl) ?_
 obtain ⟨t11, ht12, hm0⟩ := bindSome hm0
 refine o_call hO go79 (fix_Hold_ok hO.sub  ht12) rfl ?_
 rintro _ H13 w14 le15 rfl hO
 refine val (x_assign (.int .i64 t11) rfl) ?_
 refine nil (W.ret ?_)
 obtain rfl := sj hm0
 exact ⟨H13, rfl, hO.done⟩
theorem fix_Mul_ok {w0 : World} {H0 : IHeap} (hS : Sub H0 w0) {p0 : Int} {p1 : Int}    {res : Int} (hm0 : fix_Mul p0 p1 = some res) :
  Ok prog 157 [(.int .i64 p0), (.int .i64 p1)].toArray w0 H0 (fun H' v => v = (.int .i64 res)) := by
 unfold fix_Mul at hm0
 refine ok_of_W Tryz.func157 rfl Tryz.ntmps157 (ts := [4]) rfl rfl rfl ?_
 have hO := St.start hS
 refine seq (region (val (x_assign (.int .i64 0) rfl) ?_))
 refine nil (seq (region (val (x_move (.int .i64 p0) rfl) ?_)))
 obtain ⟨t1, ht2, hm0⟩ := bindSome hm0
 refine o_call hO go79 (fix_Hold_ok hO.sub  ht2) rfl ?_
 rintro _ H3 w4 le5 rfl hO
 refine val (x_move (.int .i64 p1) rfl) ?_
 obtain ⟨t6, ht7, hm0⟩ := bindSome hm0
 refine o_call hO go79 (fix_Hold_ok hO.sub  ht7) rfl ?_
 rintro _ H8 w9 le10 rfl hO
 refine val (x_mul rfl rfl) ?_
 refine val (x_quo rfl rfl rfl) ?_
 obtain ⟨t11, ht12, hm0⟩ := bindSome hm0
 refine o_call hO go79 (fix_Hold_ok hO.sub  ht12) rfl ?_
 rintro _ H13 w14 le15 rfl hO
 refine val (x_assign (.int .i64 t11) rfl) ?_
 refine nil (W.ret ?_)
 obtain rfl := sj hm0
 exact ⟨H13, rfl, hO.done⟩
theorem vec_Dot_ok {w0 : World} {H0 : IHeap} (hS : Sub H0 w0) {p0 : List Int} {p1 : List Int}  {A1_ : Option Addr} {c1_ : Nat} {A2_ : Option Addr} {c2_ : Nat} (h1_ : RS (eInt .i64) H0 A1_ c1_ p0) (h2_ : RS (eInt .i64) H0 A2_ c2_ p1) {res : Int × Bool} (hm0 : vec_Dot p0 p1 = some res) :
  Ok prog 158 [(.slice A1_ p0.length c1_), (.slice A2_ p1.length c2_)].toArray w0 H0 (fun H' v => v = (.tuple #[(.int .i64 res.1), (.bool res.2)])) := by
 unfold vec_Dot at hm0
 refine ok_of_W Tryz.func158 rfl Tryz.ntmps158 (ts := [4, 5]) rfl rfl rfl ?_
 have hO := St.start hS
 refine seq (region (val (x_assign (.int .i64 0) rfl) ?_))
 refine val (x_assign (.bool false) rfl) ?_
 refine nil (seq (seq (region (val (x_move (.slice A1_ p0.length c1_) rfl) ?_))))
 refine val (x_len rfl underlying61) ?_
 refine val (x_move (.slice A2_ p1.length c2_) rfl) ?_
 refine val (x_len rfl underlying61) ?_
 refine val (x_neq rfl rfl) ?_
 refine nil (test rfl hm0 ?_ ?_)
 ·intro hb1 hm0
  refine seq (region (val (x_assign (.int .i64 0) rfl) ?_))
  refine val (x_assign (.bool false) rfl) ?_
  refine nil (W.ret ?_)
  obtain rfl := sj hm0
  exact ⟨H0, rfl, hO.done⟩
 ·intro hb1 hm0
  refine skip (seq (region (val (x_assign (.int .i64 0) rfl) ?_)))
  refine nil (seq (seq (region (val (x_move (.slice A1_ p0.length c1_) rfl) ?_))))
  refine val (x_len rfl underlying61) ?_
  refine val (x_move (.int .i64 0) rfl) ?_
  refine nil ?_
  obtain ⟨o2, hm1, hm0⟩ := bindSome hm0
  have hO := hO.pick [] trivial
  refine W.blockLoop (fun r w => ∃ (v8 : Int) (i5 : Nat) (H3 : IHeap), v8 = o2 ∧ Le H0 H3 ∧ St w0 H0 [] H3 (ol []) w ∧ r 6 = (.int .i64 v8)) (fun k r w => ∃ (i5 : Nat) (rest6 : List Int) (v8 : Int) (H3 : IHeap), k = rest6.length ∧ List.drop i5 p0 = rest6 ∧ vec_Dot_l1 p1 rest6 i5 v8 = some o2 ∧ Le H0 H3 ∧ St w0 H0 [] H3 (ol []) w ∧ r 1 = (.slice A2_ p1.length c2_) ∧ r 6 = (.int .i64 v8) ∧ r 14 = (.slice A1_ p0.length c1_) ∧ r 15 = (.int .i64 (p0.length : Int)) ∧ r 16 = (.int .i64 (i5 : Int))) (List.length p0) ?_ ?_ ?_
  ·exact ⟨0, _, 0, _, rfl, rfl, hm1, Le.refl _, hO, rfl, rfl, rfl, rfl, rfl⟩
  ·
   intro k r w
   rintro ⟨i5, rest6, v8, H3, rfl, hd9, hm1, le4, hO, f1_1, f6_1, f14_1, f15_1, f16_1⟩
   cases rest6 with
   | nil =>
    rw [vec_Dot_l1] at hm1
    have hlt := drop_nil hd9
    refine seq (region (val (x_lss f16_1 f15_1) ?_))
    refine nil (seq (W.cond_f (kb rfl hlt) ?_))
    refine W.exit _ rfl ?_
    obtain rfl := sj hm1
    exact ⟨v8, i5, H3, rfl, le4, hO.pick _ trivial, f6_1⟩
   | cons x7 rest6 =>
    rw [vec_Dot_l1] at hm1
    have hlt := drop_lt hd9
    have hnx := drop_next hd9
    have hinc := inc_len hlt h1_.1 h1_.2.1
    refine seq (region (val (x_lss f16_1 f15_1) ?_))
    refine nil (seq (W.cond_t (kb rfl hlt) ?_))
    refine skip (seq (W.block ?_))
    refine seq (region (val (x_move (.int .i64 (i5 : Int)) f16_1) ?_))
    obtain ⟨a10, h11, hA12, hin⟩ := RS.atR (h1_.up le4) hd9
    refine val (x_ia (sA f14_1 hA12) f16_1 sle61 hin) ?_
    refine val (x_ldc rfl (h11.int _ hO.sub) one3) ?_
    refine val (x_assign (.int .i64 (i5 : Int)) rfl) ?_
    refine val (x_assign (.int .i64 x7) rfl) ?_
    refine nil (region (val (x_move (.int .i64 v8) f6_1) ?_))
    refine val (x_move (.int .i64 x7) rfl) ?_
    refine val (x_move (.slice A2_ p1.length c2_) f1_1) ?_
    refine val (x_move (.int .i64 (i5 : Int)) rfl) ?_
    obtain ⟨hin16, hm1⟩ := chk hm1
    obtain ⟨a13, h14, hA15⟩ := RS.at_ (h2_.up le4) hin16
    refine val (x_ia (sA rfl hA15) rfl sle61 hin16) ?_
    refine val (x_ldc rfl (h14.int _ hO.sub) one3) ?_
    obtain ⟨t17, ht18, hm1⟩ := bindSome hm1
    refine o_call hO go157 (fix_Mul_ok hO.sub  ht18) rfl ?_
    rintro _ H19 w20 le21 rfl hO
    obtain ⟨t22, ht23, hm1⟩ := bindSome hm1
    refine o_call hO go155 (fix_Add_ok hO.sub  ht23) rfl ?_
    rintro _ H24 w25 le26 rfl hO
    refine val (x_assign (.int .i64 t22) rfl) ?_
    refine nil (region (val (x_add f16_1 rfl) ?_))
    refine val (x_move (.int .i64 (i64w ((i5 : Int) + 1))) rfl) ?_
    refine nil ?_
    exact ⟨_, Nat.lt_succ_self _, i5 + 1, rest6, t22, H24, rfl, hnx, hm1, (le4.trans (le21.trans le26)), hO.pick _ trivial, f1_1, rfl, f14_1, f15_1, (incv hinc)⟩
  ·intro r w
   rintro ⟨v29, i30, H27, rfl, le28, hO, f31⟩
   refine seq (region (val (x_move (.int .i64 v29) f31) ?_))
   refine val (x_assign (.int .i64 v29) rfl) ?_
   refine val (x_assign (.bool true) rfl) ?_
   refine nil (W.ret ?_)
   obtain rfl := sj hm0
   exact ⟨H27, rfl, hO.done⟩
theorem mat_Apply_ok {w0 : World} {H0 : IHeap} (hS : Sub H0 w0) {p0 : List (List Int)} {p1 : List Int}  {A1_ : Option Addr} {c1_ : Nat} {A2_ : Option Addr} {c2_ : Nat} (h1_ : RS (eSl (eInt .i64)) H0 A1_ c1_ p0) (h2_ : RS (eInt .i64) H0 A2_ c2_ p1) {res : (List Int) × Bool} (hm0 : mat_Apply p0 p1 = some res) :
  Ok prog 134 [(.slice A1_ p0.length c1_), (.slice A2_ p1.length c2_)].toArray w0 H0 (fun H' v => ∃ (A1 : Option Addr) (c1 : Nat), v = (.tuple #[(.slice A1 res.1.length c1), (.bool res.2)]) ∧ RS (eInt .i64) H' A1 c1 res.1) := by
 unfold mat_Apply at hm0
 refine ok_of_W Tryz.func134 rfl Tryz.ntmps134 (ts := [4, 5]) rfl rfl rfl ?_
 have hO := St.start hS
 refine seq (region (val (x_assign (.slice none 0 0) rfl) ?_))
 refine val (x_assign (.bool false) rfl) ?_
 refine nil (seq (region (val (x_assign (.slice none 0 0) rfl) ?_)))
 refine nil (seq (seq (region (val (x_move (.slice A1_ p0.length c1_) rfl) ?_))))
 refine val (x_len rfl underlying25) ?_
 refine val (x_move (.int .i64 0) rfl) ?_
 refine nil ?_
 have hO := hO.nilRowT (α := Int) 0 none 3 (eInt .i64)
 obtain ⟨o1, hm1, hm0⟩ := bindSome hm0
 have hO := hO.pick [(0, .row none 0 3 (eInt .i64).size ([] : List Int).length [])] ⟨rfl, trivial⟩
 refine W.blockLoop (fun r w => ∃ (v7 : List Int) (A8 : Option Addr) (c9 : Nat) (cs10 : List Value) (i4 : Nat) (H2 : IHeap), .out v7 = o1 ∧ Le H0 H2 ∧ St w0 H0 [] H2 (ol [(0, .row A8 c9 3 (eInt .i64).size v7.length cs10)]) w ∧ r 6 = (.slice A8 v7.length c9) ∧ Rows (eInt .i64) H2 cs10 v7) (fun k r w => ∃ (i4 : Nat) (rest5 : List (List Int)) (v7 : List Int) (A8 : Option Addr) (c9 : Nat) (cs10 : List Value) (H2 : IHeap), k = rest5.length ∧ List.drop i4 p0 = rest5 ∧ mat_Apply_l1 p1 rest5 i4 v7 = some o1 ∧ Le H0 H2 ∧ St w0 H0 [] H2 (ol [(0, .row A8 c9 3 (eInt .i64).size v7.length cs10)]) w ∧ r 1 = (.slice A2_ p1.length c2_) ∧ r 6 = (.slice A8 v7.length c9) ∧ r 11 = (.slice A1_ p0.length c1_) ∧ r 12 = (.int .i64 (p0.length : Int)) ∧ r 13 = (.int .i64 (i4 : Int)) ∧ Rows (eInt .i64) H2 cs10 v7) (List.length p0) ?_ ?_ ?_
 ·exact ⟨0, _, ([] : List Int), none, 0, [], _, rfl, rfl, hm1, Le.refl _, hO, rfl, rfl, rfl, rfl, rfl, Rows.nil⟩
 ·
  intro k r w
  rintro ⟨i4, rest5, v7, A8, c9, cs10, H2, rfl, hd12, hm1, le3, hO, f1_1, f6_1, f11_1, f12_1, f13_1, h11⟩
  cases rest5 with
  | nil =>
   rw [mat_Apply_l1] at hm1
   have hlt := drop_nil hd12
   refine seq (region (val (x_lss f13_1 f12_1) ?_))
   refine nil (seq (W.cond_f (kb rfl hlt) ?_))
   refine W.exit _ rfl ?_
   obtain rfl := sj hm1
   exact ⟨v7, A8, c9, cs10, i4, H2, rfl, le3, hO.pick _ ⟨rfl, trivial⟩, f6_1, h11⟩
  | cons x6 rest5 =>
   rw [mat_Apply_l1] at hm1
   have hlt := drop_lt hd12
   have hnx := drop_next hd12
   have hinc := inc_len hlt h1_.1 h1_.2.1
   refine seq (region (val (x_lss f13_1 f12_1) ?_))
   refine nil (seq (W.cond_t (kb rfl hlt) ?_))
   refine skip (seq (W.block ?_))
   refine seq (region ?_)
   obtain ⟨a13, h14, hA15, hin⟩ := RS.atR (h1_.up le3) hd12
   refine val (x_ia (sA f11_1 hA15) f13_1 sle25 hin) ?_
   obtain ⟨A16, c17, h18, hc19⟩ := At.sl h14
   refine val (x_ldc rfl (hc19 _ hO.sub) one61) ?_
   refine val (x_assign (.slice A16 x6.length c17) rfl) ?_
   refine nil (seq (region (val (x_move (.slice A16 x6.length c17) rfl) ?_)))
   refine val (x_move (.slice A2_ p1.length c2_) f1_1) ?_
   obtain ⟨t20, ht21, hm1⟩ := bindSome hm1
   refine o_call hO go158 (vec_Dot_ok hO.sub h18 (h2_.up le3) ht21) rfl ?_
   rintro _ H22 w23 le24 rfl hO
   refine val (x_move (.tuple #[(.int .i64 t20.1), (.bool t20.2)]) rfl) ?_
   refine val (x_extract (.int .i64 t20.1) rfl rfl) ?_
   refine val (x_extract (.bool t20.2) rfl rfl) ?_
   refine val (x_assign (.int .i64 t20.1) rfl) ?_
   refine val (x_assign (.bool t20.2) rfl) ?_
   refine nil (seq (seq (region (val (x_move (.bool t20.2) rfl) ?_))))
   refine val (x_not rfl) ?_
   refine nil (test rfl hm1 ?_ ?_)
   ·intro hb25 hm1
    refine seq (region (val (x_assign (.slice none 0 0) rfl) ?_))
    refine val (x_assign (.bool false) rfl) ?_
    refine nil (W.ret ?_)
    obtain rfl := sj hm1
    dsimp only at hm0
    obtain rfl := sj hm0
    exact ⟨H22, ⟨none, 0, rfl, (RS.nil0 _ _)⟩, hO.done⟩
   ·intro hb25 hm1
    refine skip (region (val (x_move (.slice A8 v7.length c9) f6_1) ?_))
    refine val (x_move (.int .i64 t20.1) rfl) ?_
    refine o_litT (en := (eInt .i64)) 1 [(.int .i64 t20.1)] ([t20.1] : List Int) hO sli61 ⟨rfl, trivial⟩ rfl rfl rfl ?_
    intro g26 cs27 w28 hr29 hO
    refine o_appT (en := (eInt .i64)) (xs := v7) (ys := ([t20.1] : List Int)) 0 hO rfl (h11.up le24) rfl rfl (Src.row (k := 1) hO rfl) hr29 sli61 rfl rfl underlying61 hm1 ?_
    intro A30 c31 cs32 w33 hr34 hO hm1
    refine val (x_assign (.slice A30 (v7 ++ ([t20.1] : List Int)).length c31) rfl) ?_
    refine nil (region (val (x_add f13_1 rfl) ?_))
    refine val (x_move (.int .i64 (i64w ((i4 : Int) + 1))) rfl) ?_
    refine nil ?_
    exact ⟨_, Nat.lt_succ_self _, i4 + 1, rest5, (v7 ++ ([t20.1] : List Int)), A30, c31, cs32, H22, rfl, hnx, hm1, (le3.trans le24), hO.pick _ ⟨rfl, trivial⟩, f1_1, rfl, f11_1, f12_1, (incv hinc), hr34⟩
 ·intro r w
  rintro ⟨v37, A38, c39, cs41, i42, H35, rfl, le36, hO, f43, h40⟩
  dsimp only at hm0
  refine seq (region (val (x_move (.slice A38 v37.length c39) f43) ?_))
  refine val (x_assign (.slice A38 v37.length c39) rfl) ?_
  refine val (x_assign (.bool true) rfl) ?_
  refine nil (W.ret ?_)
  obtain ⟨H44, le45, h46, hO⟩ := hO.freezeRow (en := (eInt .i64)) 0 rfl rfl rfl h40
  obtain rfl := sj hm0
  exact ⟨H44, ⟨A38, c39, rfl, h46⟩, hO.done⟩
end Go.Sw

/- The calls compute the mirrors. -/
import Derived.Test.YtahaedoeckgidaaGreatZgF
import Derived.Test.YtahaedoeckgidaaGreatZgC3
import Derived.Test.YtahaedoeckgidaaGreatZgC4
import Derived.Test.YtahaedoeckgidaaGreatZgC8
import Derived.Test.YtahaedoeckgidaaGreatZgC9
import Derived.Test.YtahaedoeckgidaaGreatZgC10
set_option linter.unusedVariables false
set_option linter.unusedSimpArgs false
set_option maxRecDepth 100000
namespace Go.Sw
open WL (val nil gval yes no)
open W (region test seq skip)
open WA (take)
open Go.Proofs.Tryz
open Go.Proofs
theorem fleet_Fleet_Deliver_ok {w0 : World} {H0 : IHeap} {p0 : FleetFleet} {p1 : Int}  {g1_ : Nat} {cs2_ : List Value} {A4_ : Option Addr} {c5_ : Nat} {cs6_ : List Value} {A8_ : Option Addr} {c9_ : Nat} {cs10_ : List Value} {M : List Nat} (hO : St w0 H0 M H0 (ol [(0, .blk g1_ cs2_ 93), (1, .row A4_ c5_ 61 (eSl (eInt .i64)).size p0.answers.length cs6_), (2, .row A8_ c9_ 4 eBool.size p0.answered.length cs10_)]) w0) (h3_ : Enc.rep (eFleetFleet (.slice A4_ p0.answers.length c5_) (.slice A8_ p0.answered.length c9_)) H0 cs2_ p0) (h7_ : Rows (eSl (eInt .i64)) H0 cs6_ p0.answers) (h11_ : Rows eBool H0 cs10_ p0.answered) {res : FleetFleet × Int} (hm0 : fleet_Fleet_Deliver p0 p1 = some res) :
  OkM prog 14 [(.pointer (some ⟨g1_, 0, none⟩)), (.int .i64 p1)].toArray w0 H0 M (fun H' O' v => ∃ (cs1 : List Value) (A1_0 : Option Addr) (c1_0 : Nat) (cs1_0 : List Value) (A1_1 : Option Addr) (c1_1 : Nat) (cs1_1 : List Value), v = (.int .i64 res.2) ∧ Enc.rep (eFleetFleet (.slice A1_0 res.1.answers.length c1_0) (.slice A1_1 res.1.answered.length c1_1)) H' cs1 res.1 ∧ Rows (eSl (eInt .i64)) H' cs1_0 res.1.answers ∧ Rows eBool H' cs1_1 res.1.answered ∧ O' 0 = some (.blk g1_ cs1 93) ∧ O' 1 = some (.row A1_0 c1_0 61 (eSl (eInt .i64)).size res.1.answers.length cs1_0) ∧ O' 2 = some (.row A1_1 c1_1 4 eBool.size res.1.answered.length cs1_1)) := by
 unfold fleet_Fleet_Deliver at hm0
 refine (okM_of_W Tryz.func14 rfl Tryz.ntmps14 (rs := [.tmp 4]) rfl rfl ?_)
 refine seq (region (val (x_assign (.int .i64 0) rfl) ?_))
 refine nil (seq (region (val (x_move (.pointer (some ⟨g1_, 0, none⟩)) rfl) ?_)))
 refine val (x_nilCheck rfl) ?_
 refine val (x_fa rfl fo93_3) ?_
 obtain ⟨cs1, hr2, hc3⟩ := lFleetFleet_bag.part _ _ _ h3_
 obtain ⟨A4, c5, rfl, h6⟩ := hr2
 refine val (x_ld 0 (.slice A4 p0.bag.length c5) hO rfl rfl (hc3 0 _ rfl) one55) ?_
 refine val (x_move (.int .i64 p1) rfl) ?_
 obtain ⟨t7, ht8, hm0⟩ := bindSome hm0
 refine o_call hO go47 (bag_Take_ok hO.sub h6 ht8) rfl ?_
 rintro _ H9 w10 le11 ⟨A12, c13, rfl, h14⟩ hO
 refine val (x_move (.tuple #[(vs t7.1), (.slice A12 t7.2.1.length c13), (.bool t7.2.2)]) rfl) ?_
 refine val (x_extract (vs t7.1) rfl rfl) ?_
 refine val (x_extract (.slice A12 t7.2.1.length c13) rfl rfl) ?_
 refine val (x_extract (.bool t7.2.2) rfl rfl) ?_
 refine val (x_assign (vs t7.1) rfl) ?_
 refine val (x_assign (.slice A12 t7.2.1.length c13) rfl) ?_
 refine val (x_assign (.bool t7.2.2) rfl) ?_
 refine nil (seq (seq (region (val (x_move (.bool t7.2.2) rfl) ?_))))
 refine val (x_not rfl) ?_
 refine nil (test rfl hm0 ?_ ?_)
 ·intro hb15 hm0
  refine seq (region (val (x_assign (.int .i64 4) rfl) ?_))
  refine nil (W.ret ?_)
  obtain rfl := sj hm0
  exact ⟨[(.int .i64 4)], ⟨rfl, trivial⟩, H9, _, ⟨cs2_, A4_, c5_, cs6_, A8_, c9_, cs10_, rfl, (Enc.mono _ le11 h3_), (h7_.up le11), (h11_.up le11), rfl, rfl, rfl⟩, hO.relabel [(0, .blk g1_ cs2_ 93), (1, .row A4_ c5_ 61 (eSl (eInt .i64)).size p0.answers.length cs6_), (2, .row A8_ c9_ 4 eBool.size p0.answered.length cs10_)] ⟨rfl, rfl, rfl, trivial⟩ (names_nd (ns := [0, 1, 2]) rfl (by decide))⟩
 ·intro hb15 hm0
  refine skip (seq (region (val (x_move (.pointer (some ⟨g1_, 0, none⟩)) rfl) ?_)))
  refine val (x_move (.slice A12 t7.2.1.length c13) rfl) ?_
  refine val (x_nilCheck rfl) ?_
  refine val (x_fa rfl fo93_3) ?_
  refine o_stP 0 (.slice A12 t7.2.1.length c13) hO rfl (Enc.mono _ le11 h3_) lFleetFleet_bag rfl rfl rfl ⟨A12, c13, rfl, h14⟩ siz55 ?_
  intro cs16 w17 (hr18 : Enc.rep (eFleetFleet (.slice A4_ p0.answers.length c5_) (.slice A8_ p0.answered.length c9_)) H9 cs16 ({ p0 with bag := t7.2.1 } : FleetFleet)) hO
  refine nil (seq (region (val (x_move (vs t7.1) rfl) ?_)))
  obtain ⟨t19, ht20, hm0⟩ := bindSome hm0
  refine o_call hO go48 (wire_Take_ok hO.sub  ht20) rfl ?_
  rintro _ H21 w22 le23 ⟨A24, c25, rfl, h26⟩ hO
  refine val (x_move (.tuple #[(.agg #[(.int .i64 t19.1.Kind), (.int .i64 t19.1.From), (.int .i64 t19.1.To), (.int .i64 t19.1.Seq), (.int .i64 t19.1.Batch), (.int .i64 t19.1.Layer), (.int .i64 t19.1.Token), (.int .i64 t19.1.Rank), (.int .i64 t19.1.Expert), (.int .i64 t19.1.Epoch), (.slice A24 t19.1.Vec.length c25)]), (.int .i64 t19.2)]) rfl) ?_
  refine val (x_extract (.agg #[(.int .i64 t19.1.Kind), (.int .i64 t19.1.From), (.int .i64 t19.1.To), (.int .i64 t19.1.Seq), (.int .i64 t19.1.Batch), (.int .i64 t19.1.Layer), (.int .i64 t19.1.Token), (.int .i64 t19.1.Rank), (.int .i64 t19.1.Expert), (.int .i64 t19.1.Epoch), (.slice A24 t19.1.Vec.length c25)]) rfl rfl) ?_
  refine val (x_extract (.int .i64 t19.2) rfl rfl) ?_
  refine o_alloc 3 _ [(.int .i64 0), (.int .i64 0), (.int .i64 0), (.int .i64 0), (.int .i64 0), (.int .i64 0), (.int .i64 0), (.int .i64 0), (.int .i64 0), (.int .i64 0), (.slice none 0 0)] zer109 hO rfl ?_
  intro g27 w28 hO
  refine o_sts 3 [(.int .i64 t19.1.Kind), (.int .i64 t19.1.From), (.int .i64 t19.1.To), (.int .i64 t19.1.Seq), (.int .i64 t19.1.Batch), (.int .i64 t19.1.Layer), (.int .i64 t19.1.Token), (.int .i64 t19.1.Rank), (.int .i64 t19.1.Expert), (.int .i64 t19.1.Epoch), (.slice A24 t19.1.Vec.length c25)] hO rfl rfl rfl siz109 rfl (Nat.le_of_ble_eq_true rfl) (by simp [Value.oneCell', vs]) ?_
  intro w29 hO
  refine val (x_assign (.int .i64 t19.2) rfl) ?_
  refine nil (seq (W.block ?_))
  refine seq (region (val (x_move (.int .i64 t19.2) rfl) ?_))
  refine val (x_neq rfl rfl) ?_
  refine val (x_assign (.bool (t19.2 != 0)) rfl) ?_
  refine nil (test rfl hm0 ?_ ?_)
  ·intro hb30 hm0
   refine skip (seq (region (val (x_assign (.int .i64 0) rfl) ?_)))
   refine nil (W.ret ?_)
   obtain rfl := sj hm0
   exact ⟨[(.int .i64 0)], ⟨rfl, trivial⟩, H21, _, ⟨cs16, A4_, c5_, cs6_, A8_, c9_, cs10_, rfl, (Enc.mono _ le23 hr18), (h7_.up (le11.trans le23)), (h11_.up (le11.trans le23)), rfl, rfl, rfl⟩, hO.relabel [(0, .blk g1_ cs16 93), (1, .row A4_ c5_ 61 (eSl (eInt .i64)).size p0.answers.length cs6_), (2, .row A8_ c9_ 4 eBool.size p0.answered.length cs10_)] ⟨rfl, rfl, rfl, trivial⟩ (names_nd (ns := [0, 1, 2]) rfl (by decide))⟩
  ·intro hb30 hm0
   refine seq (region (val (x_fa rfl fo109_2) ?_))
   refine val (x_ld 3 (.int .i64 t19.1.To) hO rfl rfl rfl one3) ?_
   refine val (x_eql rfl rfl) ?_
   refine val (x_assign (.bool (t19.1.To == 0)) rfl) ?_
   refine nil (test rfl hm0 ?_ ?_)
   ·intro hb31 hm0
    refine region (val (x_move (.pointer (some ⟨g1_, 0, none⟩)) rfl) ?_)
    refine val (x_lds 3 [(.int .i64 t19.1.Kind), (.int .i64 t19.1.From), (.int .i64 t19.1.To), (.int .i64 t19.1.Seq), (.int .i64 t19.1.Batch), (.int .i64 t19.1.Layer), (.int .i64 t19.1.Token), (.int .i64 t19.1.Rank), (.int .i64 t19.1.Expert), (.int .i64 t19.1.Epoch), (.slice A24 t19.1.Vec.length c25)] hO rfl rfl agg109 rfl rfl) ?_
    obtain ⟨t32, ht33, hm0⟩ := bindSome hm0
    refine o_callL (args := [(.pointer (some ⟨g1_, 0, none⟩)), (.agg #[(.int .i64 t19.1.Kind), (.int .i64 t19.1.From), (.int .i64 t19.1.To), (.int .i64 t19.1.Seq), (.int .i64 t19.1.Batch), (.int .i64 t19.1.Layer), (.int .i64 t19.1.Token), (.int .i64 t19.1.Rank), (.int .i64 t19.1.Expert), (.int .i64 t19.1.Epoch), (.slice A24 t19.1.Vec.length c25)])]) [(0, .blk g1_ cs16 93), (1, .row A4_ c5_ 61 (eSl (eInt .i64)).size p0.answers.length cs6_), (2, .row A8_ c9_ 4 eBool.size p0.answered.length cs10_)] hO ⟨rfl, rfl, rfl, trivial⟩ (names_nd (ns := [0, 1, 2]) rfl (by decide)) go49 (fleet_Fleet_answer_ok (p0 := ({ p0 with bag := t7.2.1 } : FleetFleet)) (p1 := (⟨t19.1.Kind, t19.1.From, t19.1.To, t19.1.Seq, t19.1.Batch, t19.1.Layer, t19.1.Token, t19.1.Rank, t19.1.Expert, t19.1.Epoch, t19.1.Vec⟩ : ApiMsg)) (hO.enterL [(0, .blk g1_ cs16 93), (1, .row A4_ c5_ 61 (eSl (eInt .i64)).size p0.answers.length cs6_), (2, .row A8_ c9_ 4 eBool.size p0.answered.length cs10_)] ⟨rfl, rfl, rfl, trivial⟩ (names_nd (ns := [0, 1, 2]) rfl (by decide))) (Enc.mono _ le23 hr18) (h7_.up (le11.trans le23)) (h11_.up (le11.trans le23)) h26 ht33) rfl ?_
    rintro _ H34 O37 w35 le36 ⟨cs38, A41, c42, cs43, A46, c47, cs48, rfl, h39, h44, h49, hk40, hk45, hk50⟩ hO
    have hO := hO.named [.blk g1_ cs38 93, .row A41 c42 61 (eSl (eInt .i64)).size t32.answers.length cs43, .row A46 c47 4 eBool.size t32.answered.length cs48] ⟨hk40, hk45, hk50, trivial⟩
    refine nil (seq (region (val (x_assign (.int .i64 0) rfl) ?_)))
    refine nil (W.ret ?_)
    obtain rfl := sj hm0
    exact ⟨[(.int .i64 0)], ⟨rfl, trivial⟩, H34, _, ⟨cs38, A41, c42, cs43, A46, c47, cs48, rfl, h39, h44, h49, rfl, rfl, rfl⟩, hO.relabel [(0, .blk g1_ cs38 93), (1, .row A41 c42 61 (eSl (eInt .i64)).size t32.answers.length cs43), (2, .row A46 c47 4 eBool.size t32.answered.length cs48)] ⟨rfl, rfl, rfl, trivial⟩ (names_nd (ns := [0, 1, 2]) rfl (by decide))⟩
   ·intro hb31 hm0
    refine seq (region (val (x_fa rfl fo109_2) ?_))
    refine val (x_ld 3 (.int .i64 t19.1.To) hO rfl rfl rfl one3) ?_
    refine val (x_leq rfl rfl) ?_
    refine val (x_assign (.bool (decide (t19.1.To ≤ 4))) rfl) ?_
    refine nil (test rfl hm0 ?_ ?_)
    ·intro hb51 hm0
     refine seq ?_
     have hO := hO.pick [(0, .blk g1_ cs16 93), (3, .blk g27 [(.int .i64 t19.1.Kind), (.int .i64 t19.1.From), (.int .i64 t19.1.To), (.int .i64 t19.1.Seq), (.int .i64 t19.1.Batch), (.int .i64 t19.1.Layer), (.int .i64 t19.1.Token), (.int .i64 t19.1.Rank), (.int .i64 t19.1.Expert), (.int .i64 t19.1.Epoch), (.slice A24 t19.1.Vec.length c25)] 109), (1, .row A4_ c5_ 61 (eSl (eInt .i64)).size p0.answers.length cs6_), (2, .row A8_ c9_ 4 eBool.size p0.answered.length cs10_)] ⟨rfl, rfl, rfl, rfl, trivial⟩
     refine W.draw (SD w0 H0 M H21 [(0, .blk g1_ cs16 93), (3, .blk g27 [(.int .i64 t19.1.Kind), (.int .i64 t19.1.From), (.int .i64 t19.1.To), (.int .i64 t19.1.Seq), (.int .i64 t19.1.Batch), (.int .i64 t19.1.Layer), (.int .i64 t19.1.Token), (.int .i64 t19.1.Rank), (.int .i64 t19.1.Expert), (.int .i64 t19.1.Epoch), (.slice A24 t19.1.Vec.length c25)] 109)]) (fun i => ([] : List Nat).contains i) mixed 27 rfl _ rfl ?_
     intro w52 hh1 hh2 hh3 hh4; have hO := hO.same hh1 hh2 hh3 hh4; clear hh1 hh2 hh3 hh4
     have hS : SD w0 H0 M H21 [(0, .blk g1_ cs16 93), (3, .blk g27 [(.int .i64 t19.1.Kind), (.int .i64 t19.1.From), (.int .i64 t19.1.To), (.int .i64 t19.1.Seq), (.int .i64 t19.1.Batch), (.int .i64 t19.1.Layer), (.int .i64 t19.1.Token), (.int .i64 t19.1.Rank), (.int .i64 t19.1.Expert), (.int .i64 t19.1.Epoch), (.slice A24 t19.1.Vec.length c25)] 109)] w52 := ⟨_, _, Le.refl _, hO, ⟨rfl, rfl, trivial⟩⟩
     refine take (i := 0) rfl (by kernel_rfl) (fun w hS => x_move (.pointer (some ⟨g1_, 0, none⟩)) rfl) hS ?_
     refine take (i := 1) rfl (by kernel_rfl) (fun w hS => x_nilCheck rfl) hS ?_
     refine take (i := 2) rfl (by kernel_rfl) (fun w hS => x_fa rfl fo93_0) hS ?_
     obtain ⟨cs53, hr54, hc55⟩ := lFleetFleet_m.part _ _ _ (Enc.mono _ le23 hr18)
     obtain ⟨A56, c57, rfl, h58⟩ := hr54
     refine take (i := 3) rfl (by kernel_rfl) (fun w hS => x_ldsD 0 [(.int .i64 ((({ p0 with bag := t7.2.1 } : FleetFleet).m).Dim)), (.slice A56 ((({ p0 with bag := t7.2.1 } : FleetFleet).m).Layers).length c57)] hS rfl rfl agg24 (take_of_part hc55 rfl) rfl) hS ?_
     refine take (i := 4) rfl (by kernel_rfl) (fun w hS => x_move (.pointer (some ⟨g1_, 0, none⟩)) rfl) hS ?_
     refine take (i := 5) rfl (by kernel_rfl) (fun w hS => x_nilCheck rfl) hS ?_
     refine take (i := 6) rfl (by kernel_rfl) (fun w hS => x_fa rfl fo93_1) hS ?_
     obtain ⟨cs59, hr60, hc61⟩ := lFleetFleet_p.part _ _ _ (Enc.mono _ le23 hr18)
     obtain ⟨A62, c63, rfl, h64⟩ := hr60
     refine take (i := 7) rfl (by kernel_rfl) (fun w hS => x_ldsD 0 [(.int .i64 ((({ p0 with bag := t7.2.1 } : FleetFleet).p).Epoch)), (.slice A62 ((({ p0 with bag := t7.2.1 } : FleetFleet).p).Holders).length c63)] hS rfl rfl agg27 (take_of_part hc61 rfl) rfl) hS ?_
     refine take (i := 8) rfl (by kernel_rfl) (fun w hS => x_fa rfl fo109_2) hS ?_
     refine take (i := 9) rfl (by kernel_rfl) (fun w hS => x_ldD 3 (.int .i64 t19.1.To) hS rfl rfl rfl one3) hS ?_
     refine take (i := 10) rfl (by kernel_rfl) (fun w hS => x_move (.pointer (some ⟨g1_, 0, none⟩)) rfl) hS ?_
     refine take (i := 11) rfl (by kernel_rfl) (fun w hS => x_fa rfl fo109_2) hS ?_
     refine take (i := 12) rfl (by kernel_rfl) (fun w hS => x_ldD 3 (.int .i64 t19.1.To) hS rfl rfl rfl one3) hS ?_
     refine take (i := 13) rfl (by kernel_rfl) (fun w hS => x_nilCheck rfl) hS ?_
     refine take (i := 14) rfl (by kernel_rfl) (fun w hS => x_fa rfl fo93_2) hS ?_
     obtain ⟨hin65, hm0⟩ := chk hm0
     refine take (i := 15) rfl (by kernel_rfl) (fun w hS => x_iaArr rfl rfl are89 hin65) hS ?_
     obtain ⟨cs66, hr67, hc68⟩ := (Part.comp lFleetFleet_ledgers.part ((lens_idx (n := 5) (eSl eLedgerEntry) hin65).part)) _ _ _ (Enc.mono _ le23 hr18)
     obtain ⟨A69, c70, rfl, h71⟩ := hr67
     refine take (i := 16) rfl (by kernel_rfl) (fun w hS => x_ldD 0 (.slice A69 (at0 (({ p0 with bag := t7.2.1 } : FleetFleet).ledgers) t19.1.To).length c70) hS rfl rfl (hc68 0 _ rfl) one88) hS ?_
     refine take (i := 17) rfl (by kernel_rfl) (fun w hS => x_ldsD 3 [(.int .i64 t19.1.Kind), (.int .i64 t19.1.From), (.int .i64 t19.1.To), (.int .i64 t19.1.Seq), (.int .i64 t19.1.Batch), (.int .i64 t19.1.Layer), (.int .i64 t19.1.Token), (.int .i64 t19.1.Rank), (.int .i64 t19.1.Expert), (.int .i64 t19.1.Epoch), (.slice A24 t19.1.Vec.length c25)] hS rfl rfl agg109 rfl rfl) hS ?_
     obtain ⟨t72, ht73, hm0⟩ := bindSome hm0
     refine WA.all [18, 23] (by kernel_rfl) (by simp) ?_
     intro i hi; simp only [List.mem_cons, List.not_mem_nil, or_false] at hi
     rcases hi with rfl | rfl
     ·refine ⟨_, rfl, ?_⟩
      refine o_call hO go50 (node_Work_ok hO.sub h58 h64 h71 h26 ht73) rfl ?_
      rintro _ H74 w75 le76 ⟨A77, c78, A80, c81, rfl, h79, h82⟩ hO
      have hS : SD w0 H0 M H21 [(0, .blk g1_ cs16 93), (3, .blk g27 [(.int .i64 t19.1.Kind), (.int .i64 t19.1.From), (.int .i64 t19.1.To), (.int .i64 t19.1.Seq), (.int .i64 t19.1.Batch), (.int .i64 t19.1.Layer), (.int .i64 t19.1.Token), (.int .i64 t19.1.Rank), (.int .i64 t19.1.Expert), (.int .i64 t19.1.Epoch), (.slice A24 t19.1.Vec.length c25)] 109)] _ := ⟨_, _, le76, hO, ⟨rfl, rfl, trivial⟩⟩
      refine nil ⟨fun _ => hS, ?_⟩
      refine take (i := 19) rfl (by kernel_rfl) (fun w hS => x_move (.tuple #[(.slice A77 t72.1.length c78), (.agg #[(.int .i64 t72.2.1.Kind), (.int .i64 t72.2.1.From), (.int .i64 t72.2.1.To), (.int .i64 t72.2.1.Seq), (.int .i64 t72.2.1.Batch), (.int .i64 t72.2.1.Layer), (.int .i64 t72.2.1.Token), (.int .i64 t72.2.1.Rank), (.int .i64 t72.2.1.Expert), (.int .i64 t72.2.1.Epoch), (.slice A80 t72.2.1.Vec.length c81)]), (.bool t72.2.2)]) rfl) hS ?_
      refine take (i := 20) rfl (by kernel_rfl) (fun w hS => x_extract (.slice A77 t72.1.length c78) rfl rfl) hS ?_
      refine take (i := 21) rfl (by kernel_rfl) (fun w hS => x_extract (.agg #[(.int .i64 t72.2.1.Kind), (.int .i64 t72.2.1.From), (.int .i64 t72.2.1.To), (.int .i64 t72.2.1.Seq), (.int .i64 t72.2.1.Batch), (.int .i64 t72.2.1.Layer), (.int .i64 t72.2.1.Token), (.int .i64 t72.2.1.Rank), (.int .i64 t72.2.1.Expert), (.int .i64 t72.2.1.Epoch), (.slice A80 t72.2.1.Vec.length c81)]) rfl rfl) hS ?_
      refine take (i := 22) rfl (by kernel_rfl) (fun w hS => x_extract (.bool t72.2.2) rfl rfl) hS ?_
      refine WA.only (i := 23) (by kernel_rfl) rfl ?_
      refine o_alloc 4 _ [(.int .i64 0), (.int .i64 0), (.int .i64 0), (.int .i64 0), (.int .i64 0), (.int .i64 0), (.int .i64 0), (.int .i64 0), (.int .i64 0), (.int .i64 0), (.slice none 0 0)] zer109 hO rfl ?_
      intro g83 w84 hO
      have hS : SD w0 H0 M H21 [(0, .blk g1_ cs16 93), (3, .blk g27 [(.int .i64 t19.1.Kind), (.int .i64 t19.1.From), (.int .i64 t19.1.To), (.int .i64 t19.1.Seq), (.int .i64 t19.1.Batch), (.int .i64 t19.1.Layer), (.int .i64 t19.1.Token), (.int .i64 t19.1.Rank), (.int .i64 t19.1.Expert), (.int .i64 t19.1.Epoch), (.slice A24 t19.1.Vec.length c25)] 109)] _ := ⟨_, _, le76, hO, ⟨rfl, rfl, trivial⟩⟩
      refine nil ⟨fun _ => hS, ?_⟩
      refine take (i := 24) rfl (by kernel_rfl) (fun w hS => x_assign (.slice A77 t72.1.length c78) rfl) hS ?_
      refine WA.only (i := 25) (by kernel_rfl) rfl ?_
      refine o_sts 4 [(.int .i64 t72.2.1.Kind), (.int .i64 t72.2.1.From), (.int .i64 t72.2.1.To), (.int .i64 t72.2.1.Seq), (.int .i64 t72.2.1.Batch), (.int .i64 t72.2.1.Layer), (.int .i64 t72.2.1.Token), (.int .i64 t72.2.1.Rank), (.int .i64 t72.2.1.Expert), (.int .i64 t72.2.1.Epoch), (.slice A80 t72.2.1.Vec.length c81)] hO rfl rfl rfl siz109 rfl (Nat.le_of_ble_eq_true rfl) (by simp [Value.oneCell', vs]) ?_
      intro w85 hO
      have hS : SD w0 H0 M H21 [(0, .blk g1_ cs16 93), (3, .blk g27 [(.int .i64 t19.1.Kind), (.int .i64 t19.1.From), (.int .i64 t19.1.To), (.int .i64 t19.1.Seq), (.int .i64 t19.1.Batch), (.int .i64 t19.1.Layer), (.int .i64 t19.1.Token), (.int .i64 t19.1.Rank), (.int .i64 t19.1.Expert), (.int .i64 t19.1.Epoch), (.slice A24 t19.1.Vec.length c25)] 109)] _ := ⟨_, _, le76, hO, ⟨rfl, rfl, trivial⟩⟩
      refine nil ⟨fun _ => hS, ?_⟩
      refine take (i := 26) rfl (by kernel_rfl) (fun w hS => x_assign (.bool t72.2.2) rfl) hS ?_
      refine WA.done (by kernel_rfl) ?_
      refine seq ?_
      have hO := hO.pick [(0, .blk g1_ cs16 93), (3, .blk g27 [(.int .i64 t19.1.Kind), (.int .i64 t19.1.From), (.int .i64 t19.1.To), (.int .i64 t19.1.Seq), (.int .i64 t19.1.Batch), (.int .i64 t19.1.Layer), (.int .i64 t19.1.Token), (.int .i64 t19.1.Rank), (.int .i64 t19.1.Expert), (.int .i64 t19.1.Epoch), (.slice A24 t19.1.Vec.length c25)] 109), (4, .blk g83 [(.int .i64 t72.2.1.Kind), (.int .i64 t72.2.1.From), (.int .i64 t72.2.1.To), (.int .i64 t72.2.1.Seq), (.int .i64 t72.2.1.Batch), (.int .i64 t72.2.1.Layer), (.int .i64 t72.2.1.Token), (.int .i64 t72.2.1.Rank), (.int .i64 t72.2.1.Expert), (.int .i64 t72.2.1.Epoch), (.slice A80 t72.2.1.Vec.length c81)] 109), (1, .row A4_ c5_ 61 (eSl (eInt .i64)).size p0.answers.length cs6_), (2, .row A8_ c9_ 4 eBool.size p0.answered.length cs10_)] ⟨rfl, rfl, rfl, rfl, rfl, trivial⟩
      refine W.draw (SD w0 H0 M H74 [(0, .blk g1_ cs16 93), (3, .blk g27 [(.int .i64 t19.1.Kind), (.int .i64 t19.1.From), (.int .i64 t19.1.To), (.int .i64 t19.1.Seq), (.int .i64 t19.1.Batch), (.int .i64 t19.1.Layer), (.int .i64 t19.1.Token), (.int .i64 t19.1.Rank), (.int .i64 t19.1.Expert), (.int .i64 t19.1.Epoch), (.slice A24 t19.1.Vec.length c25)] 109), (4, .blk g83 [(.int .i64 t72.2.1.Kind), (.int .i64 t72.2.1.From), (.int .i64 t72.2.1.To), (.int .i64 t72.2.1.Seq), (.int .i64 t72.2.1.Batch), (.int .i64 t72.2.1.Layer), (.int .i64 t72.2.1.Token), (.int .i64 t72.2.1.Rank), (.int .i64 t72.2.1.Expert), (.int .i64 t72.2.1.Epoch), (.slice A80 t72.2.1.Vec.length c81)] 109)]) (fun i => ([7] : List Nat).contains i) mixed 8 rfl _ rfl ?_
      intro w86 hh1 hh2 hh3 hh4; have hO := hO.same hh1 hh2 hh3 hh4; clear hh1 hh2 hh3 hh4
      have hS : SD w0 H0 M H74 [(0, .blk g1_ cs16 93), (3, .blk g27 [(.int .i64 t19.1.Kind), (.int .i64 t19.1.From), (.int .i64 t19.1.To), (.int .i64 t19.1.Seq), (.int .i64 t19.1.Batch), (.int .i64 t19.1.Layer), (.int .i64 t19.1.Token), (.int .i64 t19.1.Rank), (.int .i64 t19.1.Expert), (.int .i64 t19.1.Epoch), (.slice A24 t19.1.Vec.length c25)] 109), (4, .blk g83 [(.int .i64 t72.2.1.Kind), (.int .i64 t72.2.1.From), (.int .i64 t72.2.1.To), (.int .i64 t72.2.1.Seq), (.int .i64 t72.2.1.Batch), (.int .i64 t72.2.1.Layer), (.int .i64 t72.2.1.Token), (.int .i64 t72.2.1.Rank), (.int .i64 t72.2.1.Expert), (.int .i64 t72.2.1.Epoch), (.slice A80 t72.2.1.Vec.length c81)] 109)] w86 := ⟨_, _, Le.refl _, hO, ⟨rfl, rfl, rfl, trivial⟩⟩
      refine take (i := 0) rfl (by kernel_rfl) (fun w hS => x_move (.pointer (some ⟨g1_, 0, none⟩)) rfl) hS ?_
      refine take (i := 1) rfl (by kernel_rfl) (fun w hS => x_fa rfl fo109_2) hS ?_
      refine take (i := 2) rfl (by kernel_rfl) (fun w hS => x_ldD 3 (.int .i64 t19.1.To) hS rfl rfl rfl one3) hS ?_
      refine take (i := 3) rfl (by kernel_rfl) (fun w hS => x_move (.slice A77 t72.1.length c78) rfl) hS ?_
      refine take (i := 4) rfl (by kernel_rfl) (fun w hS => x_nilCheck rfl) hS ?_
      refine take (i := 5) rfl (by kernel_rfl) (fun w hS => x_fa rfl fo93_2) hS ?_
      obtain ⟨hin87, hm0⟩ := chk hm0
      refine take (i := 6) rfl (by kernel_rfl) (fun w hS => x_iaArr rfl rfl are89 hin87) hS ?_
      refine WA.only (i := 7) (by kernel_rfl) rfl ?_
      refine o_stP 0 (.slice A77 t72.1.length c78) hO rfl (Enc.mono _ (le23.trans le76) hr18) (Lens.comp lFleetFleet_ledgers (lens_idx (n := 5) (eSl eLedgerEntry) hin87)) rfl rfl rfl ⟨A77, c78, rfl, h79⟩ siz88 ?_
      intro cs88 w89 (hr90 : Enc.rep (eFleetFleet (.slice A4_ p0.answers.length c5_) (.slice A8_ p0.answered.length c9_)) H74 cs88 ({ ({ p0 with bag := t7.2.1 } : FleetFleet) with ledgers := (List.set (({ p0 with bag := t7.2.1 } : FleetFleet).ledgers) (Int.toNat t19.1.To) t72.1) } : FleetFleet)) hO
      refine nil ⟨fun h => absurd h (by decide), ?_⟩
      refine WA.done (by kernel_rfl) ?_
      refine seq (region (val (x_move (.bool t72.2.2) rfl) ?_))
      refine nil (test rfl hm0 ?_ ?_)
      ·intro hb91 hm0
       refine region (val (x_move (.pointer (some ⟨g1_, 0, none⟩)) rfl) ?_)
       refine val (x_lds 4 [(.int .i64 t72.2.1.Kind), (.int .i64 t72.2.1.From), (.int .i64 t72.2.1.To), (.int .i64 t72.2.1.Seq), (.int .i64 t72.2.1.Batch), (.int .i64 t72.2.1.Layer), (.int .i64 t72.2.1.Token), (.int .i64 t72.2.1.Rank), (.int .i64 t72.2.1.Expert), (.int .i64 t72.2.1.Epoch), (.slice A80 t72.2.1.Vec.length c81)] hO rfl rfl agg109 rfl rfl) ?_
       obtain ⟨t92, ht93, hm0⟩ := bindSome hm0
       refine o_callL (args := [(.pointer (some ⟨g1_, 0, none⟩)), (.agg #[(.int .i64 t72.2.1.Kind), (.int .i64 t72.2.1.From), (.int .i64 t72.2.1.To), (.int .i64 t72.2.1.Seq), (.int .i64 t72.2.1.Batch), (.int .i64 t72.2.1.Layer), (.int .i64 t72.2.1.Token), (.int .i64 t72.2.1.Rank), (.int .i64 t72.2.1.Expert), (.int .i64 t72.2.1.Epoch), (.slice A80 t72.2.1.Vec.length c81)])]) [(0, .blk g1_ cs88 93), (1, .row A4_ c5_ 61 (eSl (eInt .i64)).size p0.answers.length cs6_), (2, .row A8_ c9_ 4 eBool.size p0.answered.length cs10_)] hO ⟨rfl, rfl, rfl, trivial⟩ (names_nd (ns := [0, 1, 2]) rfl (by decide)) go51 (fleet_Fleet_send_ok (p0 := ({ ({ p0 with bag := t7.2.1 } : FleetFleet) with ledgers := (List.set (({ p0 with bag := t7.2.1 } : FleetFleet).ledgers) (Int.toNat t19.1.To) t72.1) } : FleetFleet)) (p1 := (⟨t72.2.1.Kind, t72.2.1.From, t72.2.1.To, t72.2.1.Seq, t72.2.1.Batch, t72.2.1.Layer, t72.2.1.Token, t72.2.1.Rank, t72.2.1.Expert, t72.2.1.Epoch, t72.2.1.Vec⟩ : ApiMsg)) (hO.enterL [(0, .blk g1_ cs88 93), (1, .row A4_ c5_ 61 (eSl (eInt .i64)).size p0.answers.length cs6_), (2, .row A8_ c9_ 4 eBool.size p0.answered.length cs10_)] ⟨rfl, rfl, rfl, trivial⟩ (names_nd (ns := [0, 1, 2]) rfl (by decide))) hr90 (h7_.up (le11.trans (le23.trans le76))) (h11_.up (le11.trans (le23.trans le76))) h82 ht93) rfl ?_
       rintro _ H94 O97 w95 le96 ⟨cs98, A101, c102, cs103, A106, c107, cs108, rfl, h99, h104, h109, hk100, hk105, hk110⟩ hO
       have hO := hO.named [.blk g1_ cs98 93, .row A101 c102 61 (eSl (eInt .i64)).size t92.answers.length cs103, .row A106 c107 4 eBool.size t92.answered.length cs108] ⟨hk100, hk105, hk110, trivial⟩
       refine nil (seq (region (val (x_assign (.int .i64 0) rfl) ?_)))
       refine nil (W.ret ?_)
       obtain rfl := sj hm0
       exact ⟨[(.int .i64 0)], ⟨rfl, trivial⟩, H94, _, ⟨cs98, A101, c102, cs103, A106, c107, cs108, rfl, h99, h104, h109, rfl, rfl, rfl⟩, hO.relabel [(0, .blk g1_ cs98 93), (1, .row A101 c102 61 (eSl (eInt .i64)).size t92.answers.length cs103), (2, .row A106 c107 4 eBool.size t92.answered.length cs108)] ⟨rfl, rfl, rfl, trivial⟩ (names_nd (ns := [0, 1, 2]) rfl (by decide))⟩
      ·intro hb91 hm0
       refine skip (seq (region (val (x_assign (.int .i64 0) rfl) ?_)))
       refine nil (W.ret ?_)
       obtain rfl := sj hm0
       exact ⟨[(.int .i64 0)], ⟨rfl, trivial⟩, H74, _, ⟨cs88, A4_, c5_, cs6_, A8_, c9_, cs10_, rfl, hr90, (h7_.up (le11.trans (le23.trans le76))), (h11_.up (le11.trans (le23.trans le76))), rfl, rfl, rfl⟩, hO.relabel [(0, .blk g1_ cs88 93), (1, .row A4_ c5_ 61 (eSl (eInt .i64)).size p0.answers.length cs6_), (2, .row A8_ c9_ 4 eBool.size p0.answered.length cs10_)] ⟨rfl, rfl, rfl, trivial⟩ (names_nd (ns := [0, 1, 2]) rfl (by decide))⟩
     ·refine ⟨_, rfl, ?_⟩
      refine o_alloc 5 _ [(.int .i64 0), (.int .i64 0), (.int .i64 0), (.int .i64 0), (.int .i64 0), (.int .i64 0), (.int .i64 0), (.int .i64 0), (.int .i64 0), (.int .i64 0), (.slice none 0 0)] zer109 hO rfl ?_
      intro g74 w75 hO
      have hS : SD w0 H0 M H21 [(0, .blk g1_ cs16 93), (3, .blk g27 [(.int .i64 t19.1.Kind), (.int .i64 t19.1.From), (.int .i64 t19.1.To), (.int .i64 t19.1.Seq), (.int .i64 t19.1.Batch), (.int .i64 t19.1.Layer), (.int .i64 t19.1.Token), (.int .i64 t19.1.Rank), (.int .i64 t19.1.Expert), (.int .i64 t19.1.Epoch), (.slice A24 t19.1.Vec.length c25)] 109)] _ := ⟨_, _, (Le.refl _), hO, ⟨rfl, rfl, trivial⟩⟩
      refine nil ⟨fun _ => hS, ?_⟩
      refine WA.only (i := 18) (by kernel_rfl) rfl ?_
      refine o_call hO go50 (node_Work_ok hO.sub h58 h64 h71 h26 ht73) rfl ?_
      rintro _ H76 w77 le78 ⟨A79, c80, A82, c83, rfl, h81, h84⟩ hO
      have hS : SD w0 H0 M H21 [(0, .blk g1_ cs16 93), (3, .blk g27 [(.int .i64 t19.1.Kind), (.int .i64 t19.1.From), (.int .i64 t19.1.To), (.int .i64 t19.1.Seq), (.int .i64 t19.1.Batch), (.int .i64 t19.1.Layer), (.int .i64 t19.1.Token), (.int .i64 t19.1.Rank), (.int .i64 t19.1.Expert), (.int .i64 t19.1.Epoch), (.slice A24 t19.1.Vec.length c25)] 109)] _ := ⟨_, _, le78, hO, ⟨rfl, rfl, trivial⟩⟩
      refine nil ⟨fun _ => hS, ?_⟩
      refine take (i := 19) rfl (by kernel_rfl) (fun w hS => x_move (.tuple #[(.slice A79 t72.1.length c80), (.agg #[(.int .i64 t72.2.1.Kind), (.int .i64 t72.2.1.From), (.int .i64 t72.2.1.To), (.int .i64 t72.2.1.Seq), (.int .i64 t72.2.1.Batch), (.int .i64 t72.2.1.Layer), (.int .i64 t72.2.1.Token), (.int .i64 t72.2.1.Rank), (.int .i64 t72.2.1.Expert), (.int .i64 t72.2.1.Epoch), (.slice A82 t72.2.1.Vec.length c83)]), (.bool t72.2.2)]) rfl) hS ?_
      refine take (i := 20) rfl (by kernel_rfl) (fun w hS => x_extract (.slice A79 t72.1.length c80) rfl rfl) hS ?_
      refine take (i := 21) rfl (by kernel_rfl) (fun w hS => x_extract (.agg #[(.int .i64 t72.2.1.Kind), (.int .i64 t72.2.1.From), (.int .i64 t72.2.1.To), (.int .i64 t72.2.1.Seq), (.int .i64 t72.2.1.Batch), (.int .i64 t72.2.1.Layer), (.int .i64 t72.2.1.Token), (.int .i64 t72.2.1.Rank), (.int .i64 t72.2.1.Expert), (.int .i64 t72.2.1.Epoch), (.slice A82 t72.2.1.Vec.length c83)]) rfl rfl) hS ?_
      refine take (i := 22) rfl (by kernel_rfl) (fun w hS => x_extract (.bool t72.2.2) rfl rfl) hS ?_
      refine take (i := 24) rfl (by kernel_rfl) (fun w hS => x_assign (.slice A79 t72.1.length c80) rfl) hS ?_
      refine WA.only (i := 25) (by kernel_rfl) rfl ?_
      refine o_sts 5 [(.int .i64 t72.2.1.Kind), (.int .i64 t72.2.1.From), (.int .i64 t72.2.1.To), (.int .i64 t72.2.1.Seq), (.int .i64 t72.2.1.Batch), (.int .i64 t72.2.1.Layer), (.int .i64 t72.2.1.Token), (.int .i64 t72.2.1.Rank), (.int .i64 t72.2.1.Expert), (.int .i64 t72.2.1.Epoch), (.slice A82 t72.2.1.Vec.length c83)] hO rfl rfl rfl siz109 rfl (Nat.le_of_ble_eq_true rfl) (by simp [Value.oneCell', vs]) ?_
      intro w85 hO
      have hS : SD w0 H0 M H21 [(0, .blk g1_ cs16 93), (3, .blk g27 [(.int .i64 t19.1.Kind), (.int .i64 t19.1.From), (.int .i64 t19.1.To), (.int .i64 t19.1.Seq), (.int .i64 t19.1.Batch), (.int .i64 t19.1.Layer), (.int .i64 t19.1.Token), (.int .i64 t19.1.Rank), (.int .i64 t19.1.Expert), (.int .i64 t19.1.Epoch), (.slice A24 t19.1.Vec.length c25)] 109)] _ := ⟨_, _, le78, hO, ⟨rfl, rfl, trivial⟩⟩
      refine nil ⟨fun _ => hS, ?_⟩
      refine take (i := 26) rfl (by kernel_rfl) (fun w hS => x_assign (.bool t72.2.2) rfl) hS ?_
      refine WA.done (by kernel_rfl) ?_
      refine seq ?_
      have hO := hO.pick [(0, .blk g1_ cs16 93), (3, .blk g27 [(.int .i64 t19.1.Kind), (.int .i64 t19.1.From), (.int .i64 t19.1.To), (.int .i64 t19.1.Seq), (.int .i64 t19.1.Batch), (.int .i64 t19.1.Layer), (.int .i64 t19.1.Token), (.int .i64 t19.1.Rank), (.int .i64 t19.1.Expert), (.int .i64 t19.1.Epoch), (.slice A24 t19.1.Vec.length c25)] 109), (5, .blk g74 [(.int .i64 t72.2.1.Kind), (.int .i64 t72.2.1.From), (.int .i64 t72.2.1.To), (.int .i64 t72.2.1.Seq), (.int .i64 t72.2.1.Batch), (.int .i64 t72.2.1.Layer), (.int .i64 t72.2.1.Token), (.int .i64 t72.2.1.Rank), (.int .i64 t72.2.1.Expert), (.int .i64 t72.2.1.Epoch), (.slice A82 t72.2.1.Vec.length c83)] 109), (1, .row A4_ c5_ 61 (eSl (eInt .i64)).size p0.answers.length cs6_), (2, .row A8_ c9_ 4 eBool.size p0.answered.length cs10_)] ⟨rfl, rfl, rfl, rfl, rfl, trivial⟩
      refine W.draw (SD w0 H0 M H76 [(0, .blk g1_ cs16 93), (3, .blk g27 [(.int .i64 t19.1.Kind), (.int .i64 t19.1.From), (.int .i64 t19.1.To), (.int .i64 t19.1.Seq), (.int .i64 t19.1.Batch), (.int .i64 t19.1.Layer), (.int .i64 t19.1.Token), (.int .i64 t19.1.Rank), (.int .i64 t19.1.Expert), (.int .i64 t19.1.Epoch), (.slice A24 t19.1.Vec.length c25)] 109), (5, .blk g74 [(.int .i64 t72.2.1.Kind), (.int .i64 t72.2.1.From), (.int .i64 t72.2.1.To), (.int .i64 t72.2.1.Seq), (.int .i64 t72.2.1.Batch), (.int .i64 t72.2.1.Layer), (.int .i64 t72.2.1.Token), (.int .i64 t72.2.1.Rank), (.int .i64 t72.2.1.Expert), (.int .i64 t72.2.1.Epoch), (.slice A82 t72.2.1.Vec.length c83)] 109)]) (fun i => ([7] : List Nat).contains i) mixed 8 rfl _ rfl ?_
      intro w86 hh1 hh2 hh3 hh4; have hO := hO.same hh1 hh2 hh3 hh4; clear hh1 hh2 hh3 hh4
      have hS : SD w0 H0 M H76 [(0, .blk g1_ cs16 93), (3, .blk g27 [(.int .i64 t19.1.Kind), (.int .i64 t19.1.From), (.int .i64 t19.1.To), (.int .i64 t19.1.Seq), (.int .i64 t19.1.Batch), (.int .i64 t19.1.Layer), (.int .i64 t19.1.Token), (.int .i64 t19.1.Rank), (.int .i64 t19.1.Expert), (.int .i64 t19.1.Epoch), (.slice A24 t19.1.Vec.length c25)] 109), (5, .blk g74 [(.int .i64 t72.2.1.Kind), (.int .i64 t72.2.1.From), (.int .i64 t72.2.1.To), (.int .i64 t72.2.1.Seq), (.int .i64 t72.2.1.Batch), (.int .i64 t72.2.1.Layer), (.int .i64 t72.2.1.Token), (.int .i64 t72.2.1.Rank), (.int .i64 t72.2.1.Expert), (.int .i64 t72.2.1.Epoch), (.slice A82 t72.2.1.Vec.length c83)] 109)] w86 := ⟨_, _, Le.refl _, hO, ⟨rfl, rfl, rfl, trivial⟩⟩
      refine take (i := 0) rfl (by kernel_rfl) (fun w hS => x_move (.pointer (some ⟨g1_, 0, none⟩)) rfl) hS ?_
      refine take (i := 1) rfl (by kernel_rfl) (fun w hS => x_fa rfl fo109_2) hS ?_
      refine take (i := 2) rfl (by kernel_rfl) (fun w hS => x_ldD 3 (.int .i64 t19.1.To) hS rfl rfl rfl one3) hS ?_
      refine take (i := 3) rfl (by kernel_rfl) (fun w hS => x_move (.slice A79 t72.1.length c80) rfl) hS ?_
      refine take (i := 4) rfl (by kernel_rfl) (fun w hS => x_nilCheck rfl) hS ?_
      refine take (i := 5) rfl (by kernel_rfl) (fun w hS => x_fa rfl fo93_2) hS ?_
      obtain ⟨hin87, hm0⟩ := chk hm0
      refine take (i := 6) rfl (by kernel_rfl) (fun w hS => x_iaArr rfl rfl are89 hin87) hS ?_
      refine WA.only (i := 7) (by kernel_rfl) rfl ?_
      refine o_stP 0 (.slice A79 t72.1.length c80) hO rfl (Enc.mono _ (le23.trans le78) hr18) (Lens.comp lFleetFleet_ledgers (lens_idx (n := 5) (eSl eLedgerEntry) hin87)) rfl rfl rfl ⟨A79, c80, rfl, h81⟩ siz88 ?_
      intro cs88 w89 (hr90 : Enc.rep (eFleetFleet (.slice A4_ p0.answers.length c5_) (.slice A8_ p0.answered.length c9_)) H76 cs88 ({ ({ p0 with bag := t7.2.1 } : FleetFleet) with ledgers := (List.set (({ p0 with bag := t7.2.1 } : FleetFleet).ledgers) (Int.toNat t19.1.To) t72.1) } : FleetFleet)) hO
      refine nil ⟨fun h => absurd h (by decide), ?_⟩
      refine WA.done (by kernel_rfl) ?_
      refine seq (region (val (x_move (.bool t72.2.2) rfl) ?_))
      refine nil (test rfl hm0 ?_ ?_)
      ·intro hb91 hm0
       refine region (val (x_move (.pointer (some ⟨g1_, 0, none⟩)) rfl) ?_)
       refine val (x_lds 5 [(.int .i64 t72.2.1.Kind), (.int .i64 t72.2.1.From), (.int .i64 t72.2.1.To), (.int .i64 t72.2.1.Seq), (.int .i64 t72.2.1.Batch), (.int .i64 t72.2.1.Layer), (.int .i64 t72.2.1.Token), (.int .i64 t72.2.1.Rank), (.int .i64 t72.2.1.Expert), (.int .i64 t72.2.1.Epoch), (.slice A82 t72.2.1.Vec.length c83)] hO rfl rfl agg109 rfl rfl) ?_
       obtain ⟨t92, ht93, hm0⟩ := bindSome hm0
       refine o_callL (args := [(.pointer (some ⟨g1_, 0, none⟩)), (.agg #[(.int .i64 t72.2.1.Kind), (.int .i64 t72.2.1.From), (.int .i64 t72.2.1.To), (.int .i64 t72.2.1.Seq), (.int .i64 t72.2.1.Batch), (.int .i64 t72.2.1.Layer), (.int .i64 t72.2.1.Token), (.int .i64 t72.2.1.Rank), (.int .i64 t72.2.1.Expert), (.int .i64 t72.2.1.Epoch), (.slice A82 t72.2.1.Vec.length c83)])]) [(0, .blk g1_ cs88 93), (1, .row A4_ c5_ 61 (eSl (eInt .i64)).size p0.answers.length cs6_), (2, .row A8_ c9_ 4 eBool.size p0.answered.length cs10_)] hO ⟨rfl, rfl, rfl, trivial⟩ (names_nd (ns := [0, 1, 2]) rfl (by decide)) go51 (fleet_Fleet_send_ok (p0 := ({ ({ p0 with bag := t7.2.1 } : FleetFleet) with ledgers := (List.set (({ p0 with bag := t7.2.1 } : FleetFleet).ledgers) (Int.toNat t19.1.To) t72.1) } : FleetFleet)) (p1 := (⟨t72.2.1.Kind, t72.2.1.From, t72.2.1.To, t72.2.1.Seq, t72.2.1.Batch, t72.2.1.Layer, t72.2.1.Token, t72.2.1.Rank, t72.2.1.Expert, t72.2.1.Epoch, t72.2.1.Vec⟩ : ApiMsg)) (hO.enterL [(0, .blk g1_ cs88 93), (1, .row A4_ c5_ 61 (eSl (eInt .i64)).size p0.answers.length cs6_), (2, .row A8_ c9_ 4 eBool.size p0.answered.length cs10_)] ⟨rfl, rfl, rfl, trivial⟩ (names_nd (ns := [0, 1, 2]) rfl (by decide))) hr90 (h7_.up (le11.trans (le23.trans le78))) (h11_.up (le11.trans (le23.trans le78))) h84 ht93) rfl ?_
       rintro _ H94 O97 w95 le96 ⟨cs98, A101, c102, cs103, A106, c107, cs108, rfl, h99, h104, h109, hk100, hk105, hk110⟩ hO
       have hO := hO.named [.blk g1_ cs98 93, .row A101 c102 61 (eSl (eInt .i64)).size t92.answers.length cs103, .row A106 c107 4 eBool.size t92.answered.length cs108] ⟨hk100, hk105, hk110, trivial⟩
       refine nil (seq (region (val (x_assign (.int .i64 0) rfl) ?_)))
       refine nil (W.ret ?_)
       obtain rfl := sj hm0
       exact ⟨[(.int .i64 0)], ⟨rfl, trivial⟩, H94, _, ⟨cs98, A101, c102, cs103, A106, c107, cs108, rfl, h99, h104, h109, rfl, rfl, rfl⟩, hO.relabel [(0, .blk g1_ cs98 93), (1, .row A101 c102 61 (eSl (eInt .i64)).size t92.answers.length cs103), (2, .row A106 c107 4 eBool.size t92.answered.length cs108)] ⟨rfl, rfl, rfl, trivial⟩ (names_nd (ns := [0, 1, 2]) rfl (by decide))⟩
      ·intro hb91 hm0
       refine skip (seq (region (val (x_assign (.int .i64 0) rfl) ?_)))
       refine nil (W.ret ?_)
       obtain rfl := sj hm0
       exact ⟨[(.int .i64 0)], ⟨rfl, trivial⟩, H76, _, ⟨cs88, A4_, c5_, cs6_, A8_, c9_, cs10_, rfl, hr90, (h7_.up (le11.trans (le23.trans le78))), (h11_.up (le11.trans (le23.trans le78))), rfl, rfl, rfl⟩, hO.relabel [(0, .blk g1_ cs88 93), (1, .row A4_ c5_ 61 (eSl (eInt .i64)).size p0.answers.length cs6_), (2, .row A8_ c9_ 4 eBool.size p0.answered.length cs10_)] ⟨rfl, rfl, rfl, trivial⟩ (names_nd (ns := [0, 1, 2]) rfl (by decide))⟩
    ·intro hb51 hm0
     refine skip (seq (region (val (x_assign (.int .i64 0) rfl) ?_)))
     refine nil (W.ret ?_)
     obtain rfl := sj hm0
     exact ⟨[(.int .i64 0)], ⟨rfl, trivial⟩, H21, _, ⟨cs16, A4_, c5_, cs6_, A8_, c9_, cs10_, rfl, (Enc.mono _ le23 hr18), (h7_.up (le11.trans le23)), (h11_.up (le11.trans le23)), rfl, rfl, rfl⟩, hO.relabel [(0, .blk g1_ cs16 93), (1, .row A4_ c5_ 61 (eSl (eInt .i64)).size p0.answers.length cs6_), (2, .row A8_ c9_ 4 eBool.size p0.answered.length cs10_)] ⟨rfl, rfl, rfl, trivial⟩ (names_nd (ns := [0, 1, 2]) rfl (by decide))⟩
theorem fleet_Fleet_Done_ok {w0 : World} {H0 : IHeap} {p0 : FleetFleet}  {g1_ : Nat} {cs2_ : List Value} {A4_ : Option Addr} {c5_ : Nat} {cs6_ : List Value} {A8_ : Option Addr} {c9_ : Nat} {cs10_ : List Value} {M : List Nat} (hO : St w0 H0 M H0 (ol [(0, .blk g1_ cs2_ 93), (1, .row A4_ c5_ 61 (eSl (eInt .i64)).size p0.answers.length cs6_), (2, .row A8_ c9_ 4 eBool.size p0.answered.length cs10_)]) w0) (h3_ : Enc.rep (eFleetFleet (.slice A4_ p0.answers.length c5_) (.slice A8_ p0.answered.length c9_)) H0 cs2_ p0) (h7_ : Rows (eSl (eInt .i64)) H0 cs6_ p0.answers) (h11_ : Rows eBool H0 cs10_ p0.answered) {res : FleetFleet × (List (List Int)) × Bool} (hm0 : fleet_Fleet_Done p0 = some res) :
  OkM prog 15 [(.pointer (some ⟨g1_, 0, none⟩))].toArray w0 H0 M (fun H' O' v => ∃ (cs1 : List Value) (A1_0 : Option Addr) (c1_0 : Nat) (cs1_0 : List Value) (A1_1 : Option Addr) (c1_1 : Nat) (cs1_1 : List Value) (A2 : Option Addr) (c2 : Nat), v = (.tuple #[(.slice A2 res.2.1.length c2), (.bool res.2.2)]) ∧ Enc.rep (eFleetFleet (.slice A1_0 res.1.answers.length c1_0) (.slice A1_1 res.1.answered.length c1_1)) H' cs1 res.1 ∧ Rows (eSl (eInt .i64)) H' cs1_0 res.1.answers ∧ Rows eBool H' cs1_1 res.1.answered ∧ RS (eSl (eInt .i64)) H' A2 c2 res.2.1 ∧ O' 0 = some (.blk g1_ cs1 93) ∧ O' 1 = some (.row A1_0 c1_0 61 (eSl (eInt .i64)).size res.1.answers.length cs1_0) ∧ O' 2 = some (.row A1_1 c1_1 4 eBool.size res.1.answered.length cs1_1)) := by
 unfold fleet_Fleet_Done at hm0
 refine (okM_of_W Tryz.func15 rfl Tryz.ntmps15 (rs := [.tmp 2, .tmp 3]) rfl rfl ?_)
 refine seq (region (val (x_assign (.slice none 0 0) rfl) ?_))
 refine val (x_assign (.bool false) rfl) ?_
 refine nil (seq (seq ?_))
 have hO := hO.pick [(0, .blk g1_ cs2_ 93), (1, .row A4_ c5_ 61 (eSl (eInt .i64)).size p0.answers.length cs6_), (2, .row A8_ c9_ 4 eBool.size p0.answered.length cs10_)] ⟨rfl, rfl, rfl, trivial⟩
 refine W.draw (SD w0 H0 M H0 [(0, .blk g1_ cs2_ 93)]) (fun i => ([] : List Nat).contains i) mixed 11 rfl _ rfl ?_
 intro w1 hh1 hh2 hh3 hh4; have hO := hO.same hh1 hh2 hh3 hh4; clear hh1 hh2 hh3 hh4
 have hS : SD w0 H0 M H0 [(0, .blk g1_ cs2_ 93)] w1 := ⟨_, _, Le.refl _, hO, ⟨rfl, trivial⟩⟩
 refine take (i := 0) rfl (by kernel_rfl) (fun w hS => x_move (.pointer (some ⟨g1_, 0, none⟩)) rfl) hS ?_
 refine take (i := 1) rfl (by kernel_rfl) (fun w hS => x_nilCheck rfl) hS ?_
 refine take (i := 2) rfl (by kernel_rfl) (fun w hS => x_fa rfl fo93_5) hS ?_
 obtain ⟨cs2, hr3, hc4⟩ := lFleetFleet_at_.part _ _ _ h3_
 obtain rfl := hr3
 refine take (i := 3) rfl (by kernel_rfl) (fun w hS => x_ldD 0 (.int .i64 p0.at_) hS rfl rfl (hc4 0 _ rfl) one3) hS ?_
 refine take (i := 4) rfl (by kernel_rfl) (fun w hS => x_move (.pointer (some ⟨g1_, 0, none⟩)) rfl) hS ?_
 refine take (i := 5) rfl (by kernel_rfl) (fun w hS => x_nilCheck rfl) hS ?_
 refine take (i := 6) rfl (by kernel_rfl) (fun w hS => x_fa rfl fo93_0) hS ?_
 refine take (i := 7) rfl (by kernel_rfl) (fun w hS => x_fa rfl fo24_1) hS ?_
 obtain ⟨cs5, hr6, hc7⟩ := (Part.comp lFleetFleet_m.part pApiModel_Layers) _ _ _ h3_
 obtain ⟨A8, c9, rfl, h10⟩ := hr6
 refine take (i := 8) rfl (by kernel_rfl) (fun w hS => x_ldD 0 (.slice A8 p0.m.Layers.length c9) hS rfl rfl (hc7 0 _ rfl) one22) hS ?_
 refine take (i := 9) rfl (by kernel_rfl) (fun w hS => x_len rfl underlying22) hS ?_
 refine take (i := 10) rfl (by kernel_rfl) (fun w hS => x_lss rfl rfl) hS ?_
 refine WA.done (by kernel_rfl) ?_
 refine test rfl hm0 ?_ ?_
 ·intro hb11 hm0
  refine seq (region (val (x_assign (.slice none 0 0) rfl) ?_))
  refine val (x_assign (.bool false) rfl) ?_
  refine nil (W.ret ?_)
  obtain rfl := sj hm0
  exact ⟨[(.slice none 0 0), (.bool false)], ⟨rfl, rfl, trivial⟩, H0, _, ⟨cs2_, A4_, c5_, cs6_, A8_, c9_, cs10_, none, 0, rfl, h3_, h7_, h11_, (RS.nil0 _ _), rfl, rfl, rfl⟩, hO.relabel [(0, .blk g1_ cs2_ 93), (1, .row A4_ c5_ 61 (eSl (eInt .i64)).size p0.answers.length cs6_), (2, .row A8_ c9_ 4 eBool.size p0.answered.length cs10_)] ⟨rfl, rfl, rfl, trivial⟩ (names_nd (ns := [0, 1, 2]) rfl (by decide))⟩
 ·intro hb11 hm0
  refine skip (seq (region (val (x_move (.pointer (some ⟨g1_, 0, none⟩)) rfl) ?_)))
  refine val (x_nilCheck rfl) ?_
  refine val (x_fa rfl fo93_4) ?_
  obtain ⟨cs12, hr13, hc14⟩ := lFleetFleet_tokens.part _ _ _ h3_
  obtain ⟨A15, c16, rfl, h17⟩ := hr13
  refine val (x_ld 0 (.slice A15 p0.tokens.length c16) hO rfl rfl (hc14 0 _ rfl) one25) ?_
  obtain ⟨t18, ht19, hm0⟩ := bindSome hm0
  refine o_callO hO go39 (slices_Clone__int_ok hO.sub h17 ht19) rfl ?_
  rintro _ H20 O28 w21 le22 ⟨A23, c24, cs25, rfl, hr26, hk27⟩ hO'
  have hO := hO.callRow hO' 3 0 _ hk27; clear hO'
  refine val (x_assign (.slice A23 t18.length c24) rfl) ?_
  refine val (x_assign (.bool true) rfl) ?_
  refine nil (W.ret ?_)
  obtain ⟨H29, le30, h31, hO⟩ := hO.freezeRow (en := (eSl (eInt .i64))) 3 rfl rfl rfl hr26
  obtain rfl := sj hm0
  exact ⟨[(.slice A23 t18.length c24), (.bool true)], ⟨rfl, rfl, trivial⟩, H29, _, ⟨cs2_, A4_, c5_, cs6_, A8_, c9_, cs10_, A23, c24, rfl, (Enc.mono _ (le22.trans le30) h3_), (h7_.up (le22.trans le30)), (h11_.up (le22.trans le30)), h31, rfl, rfl, rfl⟩, hO.relabel [(0, .blk g1_ cs2_ 93), (1, .row A4_ c5_ 61 (eSl (eInt .i64)).size p0.answers.length cs6_), (2, .row A8_ c9_ 4 eBool.size p0.answered.length cs10_)] ⟨rfl, rfl, rfl, trivial⟩ (names_nd (ns := [0, 1, 2]) rfl (by decide))⟩
theorem fleet_Fleet_Worked_ok {w0 : World} {H0 : IHeap} {p0 : FleetFleet}  {g1_ : Nat} {cs2_ : List Value} {A4_ : Option Addr} {c5_ : Nat} {cs6_ : List Value} {A8_ : Option Addr} {c9_ : Nat} {cs10_ : List Value} {M : List Nat} (hO : St w0 H0 M H0 (ol [(0, .blk g1_ cs2_ 93), (1, .row A4_ c5_ 61 (eSl (eInt .i64)).size p0.answers.length cs6_), (2, .row A8_ c9_ 4 eBool.size p0.answered.length cs10_)]) w0) (h3_ : Enc.rep (eFleetFleet (.slice A4_ p0.answers.length c5_) (.slice A8_ p0.answered.length c9_)) H0 cs2_ p0) (h7_ : Rows (eSl (eInt .i64)) H0 cs6_ p0.answers) (h11_ : Rows eBool H0 cs10_ p0.answered) {res : FleetFleet × Int} (hm0 : fleet_Fleet_Worked p0 = some res) :
  OkM prog 17 [(.pointer (some ⟨g1_, 0, none⟩))].toArray w0 H0 M (fun H' O' v => ∃ (cs1 : List Value) (A1_0 : Option Addr) (c1_0 : Nat) (cs1_0 : List Value) (A1_1 : Option Addr) (c1_1 : Nat) (cs1_1 : List Value), v = (.int .i64 res.2) ∧ Enc.rep (eFleetFleet (.slice A1_0 res.1.answers.length c1_0) (.slice A1_1 res.1.answered.length c1_1)) H' cs1 res.1 ∧ Rows (eSl (eInt .i64)) H' cs1_0 res.1.answers ∧ Rows eBool H' cs1_1 res.1.answered ∧ O' 0 = some (.blk g1_ cs1 93) ∧ O' 1 = some (.row A1_0 c1_0 61 (eSl (eInt .i64)).size res.1.answers.length cs1_0) ∧ O' 2 = some (.row A1_1 c1_1 4 eBool.size res.1.answered.length cs1_1)) := by
 unfold fleet_Fleet_Worked at hm0
 refine (okM_of_W Tryz.func17 rfl Tryz.ntmps17 (rs := [.tmp 2]) rfl rfl ?_)
 refine seq (region (val (x_assign (.int .i64 0) rfl) ?_))
 refine nil (seq (region (val (x_assign (.int .i64 0) rfl) ?_)))
 refine nil (seq (seq (region (val (x_move (.pointer (some ⟨g1_, 0, none⟩)) rfl) ?_))))
 refine val (x_nilCheck rfl) ?_
 refine val (x_fa rfl fo93_2) ?_
 obtain ⟨cs1, hr2, hc3⟩ := lFleetFleet_ledgers.part _ _ _ h3_
 refine val (x_lds 0 cs1 hO rfl rfl agg89 (take_of_part hc3 (rep_len hr2 rfl)) (rep_len hr2 rfl)) ?_
 refine val (x_move (.int .i64 0) rfl) ?_
 refine nil ?_
 obtain ⟨hlim1, hm0⟩ := chk hm0
 obtain ⟨o4, hm1, hm0⟩ := bindSome hm0
 have hO := hO.pick [(0, .blk g1_ cs2_ 93), (1, .row A4_ c5_ 61 (eSl (eInt .i64)).size p0.answers.length cs6_), (2, .row A8_ c9_ 4 eBool.size p0.answered.length cs10_)] ⟨rfl, rfl, rfl, trivial⟩
 refine W.blockLoop (fun r w => ∃ (v10 : Int) (i7 : Nat) (H5 : IHeap), v10 = o4 ∧ Le H0 H5 ∧ St w0 H0 M H5 (ol [(0, .blk g1_ cs2_ 93), (1, .row A4_ c5_ 61 (eSl (eInt .i64)).size p0.answers.length cs6_), (2, .row A8_ c9_ 4 eBool.size p0.answered.length cs10_)]) w ∧ r 3 = (.int .i64 v10)) (fun k r w => ∃ (i7 : Nat) (rest8 : Nat) (v10 : Int) (H5 : IHeap), rest8 = k ∧ Int.toNat (5 - (i7 : Int)) = rest8 ∧ fleet_Fleet_Worked_l1 p0 rest8 i7 v10 = some o4 ∧ Le H0 H5 ∧ St w0 H0 M H5 (ol [(0, .blk g1_ cs2_ 93), (1, .row A4_ c5_ 61 (eSl (eInt .i64)).size p0.answers.length cs6_), (2, .row A8_ c9_ 4 eBool.size p0.answered.length cs10_)]) w ∧ r 3 = (.int .i64 v10) ∧ r 9 = (.agg cs1.toArray) ∧ r 10 = (.int .i64 (i7 : Int))) (Int.toNat 5) ?_ ?_ ?_
 ·exact ⟨0, _, 0, _, rfl, cnt_init _, hm1, Le.refl _, hO, rfl, rfl, rfl⟩
 ·
  intro k r w
  rintro ⟨i7, rest8, v10, H5, rfl, hd11, hm1, le6, hO, f3_1, f9_1, f10_1⟩
  cases rest8 with
  | zero =>
   rw [fleet_Fleet_Worked_l1] at hm1
   have hlt := cnt_zero hd11
   refine seq (region (val (x_lss f10_1 rfl) ?_))
   refine nil (seq (W.cond_f (kb rfl hlt) ?_))
   refine W.exit _ rfl ?_
   obtain rfl := sj hm1
   exact ⟨v10, i7, H5, rfl, le6, hO.pick _ ⟨rfl, rfl, rfl, trivial⟩, f3_1⟩
  | succ rest8 =>
   rw [fleet_Fleet_Worked_l1] at hm1
   have hlt := cnt_lt hd11
   have hnx := cnt_next hd11
   have hinc := inc_lim hlt hlim1
   refine seq (region (val (x_lss f10_1 rfl) ?_))
   refine nil (seq (W.cond_t (kb rfl hlt) ?_))
   refine skip (seq (W.block ?_))
   refine seq (region ?_)
   obtain ⟨hin12, hm1⟩ := chk hm1
   obtain ⟨cs13, hr14, hc15⟩ := arr_get (Enc.mono _ le6 hr2) rfl (i := (i7 : Int)) hin12
   obtain ⟨A16, c17, rfl, h18⟩ := hr14
   refine val (x_ixArrC are89 underlying89 one88 f9_1 f10_1 hin12 hc15) ?_
   refine val (x_assign (.slice A16 (at0 p0.ledgers (i7 : Int)).length c17) rfl) ?_
   refine nil (region (val (x_move (.int .i64 v10) f3_1) ?_))
   refine val (x_move (.slice A16 (at0 p0.ledgers (i7 : Int)).length c17) rfl) ?_
   refine val (x_len rfl underlying88) ?_
   refine val (x_add rfl rfl) ?_
   refine val (x_assign (.int .i64 (i64w (v10 + ((at0 p0.ledgers (i7 : Int)).length : Int)))) rfl) ?_
   refine nil (region (val (x_add f10_1 rfl) ?_))
   refine val (x_move (.int .i64 (i64w ((i7 : Int) + 1))) rfl) ?_
   refine nil ?_
   exact ⟨_, Nat.lt_succ_self _, i7 + 1, rest8, i64w (v10 + ((at0 p0.ledgers (i7 : Int)).length : Int)), H5, rfl, hnx, hm1, le6, hO.pick _ ⟨rfl, rfl, rfl, trivial⟩, rfl, f9_1, (incv hinc)⟩
 ·intro r w
  rintro ⟨v21, i22, H19, rfl, le20, hO, f23⟩
  refine seq (region (val (x_move (.int .i64 v21) f23) ?_))
  refine val (x_assign (.int .i64 v21) rfl) ?_
  refine nil (W.ret ?_)
  obtain rfl := sj hm0
  exact ⟨[(.int .i64 v21)], ⟨rfl, trivial⟩, H19, _, ⟨cs2_, A4_, c5_, cs6_, A8_, c9_, cs10_, rfl, (Enc.mono _ le20 h3_), (h7_.up le20), (h11_.up le20), rfl, rfl, rfl⟩, hO.relabel [(0, .blk g1_ cs2_ 93), (1, .row A4_ c5_ 61 (eSl (eInt .i64)).size p0.answers.length cs6_), (2, .row A8_ c9_ 4 eBool.size p0.answered.length cs10_)] ⟨rfl, rfl, rfl, trivial⟩ (names_nd (ns := [0, 1, 2]) rfl (by decide))⟩
end Go.Sw

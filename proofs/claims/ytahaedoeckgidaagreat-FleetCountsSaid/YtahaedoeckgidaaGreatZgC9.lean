/- The calls compute the mirrors. -/
import Derived.Test.YtahaedoeckgidaaGreatZgF
import Derived.Test.YtahaedoeckgidaaGreatZgC2
import Derived.Test.YtahaedoeckgidaaGreatZgC3
import Derived.Test.YtahaedoeckgidaaGreatZgC7
set_option linter.unusedVariables false
set_option linter.unusedSimpArgs false
set_option maxRecDepth 100000
namespace Go.Sw
open WL (val nil gval yes no)
open W (region test seq skip)
open WA (take)
open Go.Proofs.Tryz
open Go.Proofs
theorem fleet_Fleet_answer_1_ok {w0 : World} {H0 : IHeap} (hS : Sub H0 w0) {p0 : ModelPart} {q_0 : ApiMsg}  {a1_ : Addr} (h1_ : At eApiMsg H0 a1_ q_0) {res : Bool} (hm0 : fleet_Fleet_answer_1 p0 q_0 = some res) :
  Ok prog 96 [(.agg #[(.int .i64 p0.Token), (.int .i64 p0.Rank), (.int .i64 p0.Expert), (.int .i64 p0.Weight)]), (.pointer (some a1_))].toArray w0 H0 (fun H' v => v = (.bool res)) := by
 unfold fleet_Fleet_answer_1 at hm0
 refine ok_of_W Tryz.func96 rfl Tryz.ntmps96 (ts := [3]) rfl rfl rfl ?_
 have hO := St.start hS
 refine seq (region (o_box 0 [(.int .i64 p0.Token), (.int .i64 p0.Rank), (.int .i64 p0.Expert), (.int .i64 p0.Weight)] hO rfl ?_))
 intro g1 w2 hO
 refine val (x_assign (.bool false) rfl) ?_
 refine nil (seq (region (val (x_fa rfl fo145_0) ?_)))
 refine val (x_ld 0 (.int .i64 p0.Token) hO rfl rfl rfl one3) ?_
 refine val (x_faAt rfl h1_ fo109_6) ?_
 refine val (x_ldc rfl ((h1_.part pApiMsg_Token).int _ hO.sub) one3) ?_
 refine val (x_eql rfl rfl) ?_
 refine val (x_move (.bool (p0.Token == q_0.Token)) rfl) ?_
 refine gval rfl rfl (fun hb => x_fa rfl fo145_1) ?_
 refine gval rfl rfl (fun hb => x_ld 0 (.int .i64 p0.Rank) hO rfl (gv hb) rfl one3) ?_
 rcases btest hm0 with ⟨hb3, hm0⟩ | ⟨hb3, hm0⟩
 ·refine yes rfl (kb rfl hb3) ?_
  refine val (x_faAt rfl h1_ fo109_7) ?_
  refine yes rfl (kb rfl hb3) ?_
  refine val (x_ldc rfl ((h1_.part pApiMsg_Rank).int _ hO.sub) one3) ?_
  refine yes rfl (kb rfl hb3) ?_
  refine val (x_eql (by exact gkT hb3) rfl) ?_
  refine val (x_pick_t (kb rfl hb3) (.bool (p0.Rank == q_0.Rank)) rfl) ?_
  refine val (x_move (.bool (p0.Rank == q_0.Rank)) rfl) ?_
  refine gval rfl rfl (fun hb => x_fa rfl fo145_2) ?_
  refine gval rfl rfl (fun hb => x_ld 0 (.int .i64 p0.Expert) hO rfl (gv hb) rfl one3) ?_
  rcases btest hm0 with ⟨hb4, hm0⟩ | ⟨hb4, hm0⟩
  ·refine yes rfl (kb rfl hb4) ?_
   refine val (x_faAt rfl h1_ fo109_8) ?_
   refine yes rfl (kb rfl hb4) ?_
   refine val (x_ldc rfl ((h1_.part pApiMsg_Expert).int _ hO.sub) one3) ?_
   refine yes rfl (kb rfl hb4) ?_
   refine val (x_eql (by exact gkT hb4) rfl) ?_
   refine val (x_pick_t (kb rfl hb4) (.bool (p0.Expert == q_0.Expert)) rfl) ?_
   refine val (x_assign (.bool (p0.Expert == q_0.Expert)) rfl) ?_
   refine nil (W.ret ?_)
   obtain rfl := sj hm0
   exact ⟨H0, rfl, hO.done⟩
  ·refine no rfl (kb rfl hb4) rfl ?_
   refine no rfl (kb rfl hb4) rfl ?_
   refine no rfl (kb rfl hb4) rfl ?_
   refine val (x_pick_f (kb rfl hb4) (.bool false) rfl) ?_
   refine val (x_assign (.bool false) rfl) ?_
   refine nil (W.ret ?_)
   obtain rfl := sj hm0
   exact ⟨H0, rfl, hO.done⟩
 ·refine no rfl (kb rfl hb3) rfl ?_
  refine no rfl (kb rfl hb3) rfl ?_
  refine no rfl (kb rfl hb3) rfl ?_
  refine val (x_pick_f (kb rfl hb3) (.bool false) rfl) ?_
  refine val (x_move (.bool false) rfl) ?_
  refine no rfl rfl rfl ?_
  refine no rfl rfl rfl ?_
  refine no rfl rfl rfl ?_
  refine no rfl rfl rfl ?_
  refine no rfl rfl rfl ?_
  refine val (x_pick_f rfl (.bool false) rfl) ?_
  refine val (x_assign (.bool false) rfl) ?_
  refine nil (W.ret ?_)
  obtain rfl := sj hm0
  exact ⟨H0, rfl, hO.done⟩
theorem slices_IndexFunc_model_Part_fleet_Fleet_answer_1_ok {w0 : World} {H0 : IHeap} (hS : Sub H0 w0) {p0 : List ModelPart} {q1_0 : ApiMsg}  {A1_ : Option Addr} {c1_ : Nat} {a2_ : Addr} (h1_ : RS eModelPart H0 A1_ c1_ p0) (h2_ : At eApiMsg H0 a2_ q1_0) {res : Int} (hm0 : slices_IndexFunc_model_Part_fleet_Fleet_answer_1 p0 q1_0 = some res) :
  Ok prog 95 [(.slice A1_ p0.length c1_), (.func (.func 96) #[] #[(.pointer (some a2_))])].toArray w0 H0 (fun H' v => v = (.int .i64 res)) := by
 unfold slices_IndexFunc_model_Part_fleet_Fleet_answer_1 at hm0
 refine ok_of_W Tryz.func95 rfl Tryz.ntmps95 (ts := [4]) rfl rfl rfl ?_
 have hO := St.start hS
 refine seq (region (val (x_assign (.int .i64 0) rfl) ?_))
 refine nil (seq (seq (region (val (x_move (.slice A1_ p0.length c1_) rfl) ?_))))
 refine val (x_len rfl underlying90) ?_
 refine val (x_move (.int .i64 0) rfl) ?_
 refine nil ?_
 obtain ⟨o1, hm1, hm0⟩ := bindSome hm0
 have hO := hO.pick [] trivial
 refine W.blockLoop (fun r w => ∃ (i4 : Nat) (H2 : IHeap), .out () = o1 ∧ Le H0 H2 ∧ St w0 H0 [] H2 (ol []) w) (fun k r w => ∃ (i4 : Nat) (rest5 : List ModelPart) (H2 : IHeap), k = rest5.length ∧ List.drop i4 p0 = rest5 ∧ slices_IndexFunc_model_Part_fleet_Fleet_answer_1_l1 q1_0 rest5 i4 = some o1 ∧ Le H0 H2 ∧ St w0 H0 [] H2 (ol []) w ∧ r 0 = (.slice A1_ p0.length c1_) ∧ r 1 = (.func (.func 96) #[] #[(.pointer (some a2_))]) ∧ r 7 = (.int .i64 (p0.length : Int)) ∧ r 8 = (.int .i64 (i4 : Int))) (List.length p0) ?_ ?_ ?_
 ·exact ⟨0, _, _, rfl, rfl, hm1, Le.refl _, hO, rfl, rfl, rfl, rfl⟩
 ·
  intro k r w
  rintro ⟨i4, rest5, H2, rfl, hd7, hm1, le3, hO, f0_1, f1_1, f7_1, f8_1⟩
  cases rest5 with
  | nil =>
   rw [slices_IndexFunc_model_Part_fleet_Fleet_answer_1_l1] at hm1
   have hlt := drop_nil hd7
   refine seq (region (val (x_lss f8_1 f7_1) ?_))
   refine nil (seq (W.cond_f (kb rfl hlt) ?_))
   refine W.exit _ rfl ?_
   obtain rfl := sj hm1
   exact ⟨i4, H2, rfl, le3, hO.pick _ trivial⟩
  | cons x6 rest5 =>
   rw [slices_IndexFunc_model_Part_fleet_Fleet_answer_1_l1] at hm1
   have hlt := drop_lt hd7
   have hnx := drop_next hd7
   have hinc := inc_len hlt h1_.1 h1_.2.1
   refine seq (region (val (x_lss f8_1 f7_1) ?_))
   refine nil (seq (W.cond_t (kb rfl hlt) ?_))
   refine skip (seq (W.block ?_))
   refine seq (region (val (x_move (.int .i64 (i4 : Int)) f8_1) ?_))
   refine val (x_assign (.int .i64 (i4 : Int)) rfl) ?_
   refine nil (seq (region (val (x_move (.func (.func 96) #[] #[(.pointer (some a2_))]) f1_1) ?_)))
   refine val (x_move (.slice A1_ p0.length c1_) f0_1) ?_
   refine val (x_move (.int .i64 (i4 : Int)) rfl) ?_
   obtain ⟨a8, h9, hA10, hin⟩ := RS.atR (h1_.up le3) hd7
   refine val (x_ia (sA rfl hA10) rfl sle90 hin) ?_
   obtain ⟨cs11, hr12, hc13⟩ := At.agg h9
   obtain rfl := hr12
   refine val (x_ldv rfl (hc13 _ _ _ hO.sub agg145)) ?_
   obtain ⟨t14, ht15, hm1⟩ := bindSome hm1
   refine o_callv (args := [(.agg #[(.int .i64 x6.Token), (.int .i64 x6.Rank), (.int .i64 x6.Expert), (.int .i64 x6.Weight)])]) (caps := [(.pointer (some a2_))]) hO rfl go96 (fleet_Fleet_answer_1_ok hO.sub (h2_.up le3) ht15) rfl ?_
   rintro _ H16 w17 le18 rfl hO
   refine nil (test rfl hm1 ?_ ?_)
   ·intro hb19 hm1
    refine seq (region (val (x_move (.int .i64 (i4 : Int)) rfl) ?_))
    refine val (x_assign (.int .i64 (i4 : Int)) rfl) ?_
    refine nil (W.ret ?_)
    obtain rfl := sj hm1
    dsimp only at hm0
    obtain rfl := sj hm0
    exact ⟨H16, rfl, hO.done⟩
   ·intro hb19 hm1
    refine skip (region (val (x_add f8_1 rfl) ?_))
    refine val (x_move (.int .i64 (i64w ((i4 : Int) + 1))) rfl) ?_
    refine nil ?_
    exact ⟨_, Nat.lt_succ_self _, i4 + 1, rest5, H16, rfl, hnx, hm1, (le3.trans le18), hO.pick _ trivial, f0_1, f1_1, f7_1, (incv hinc)⟩
 ·intro r w
  rintro ⟨i22, H20, rfl, le21, hO⟩
  dsimp only at hm0
  refine seq (region (val (x_assign (.int .i64 (-1)) rfl) ?_))
  refine nil (W.ret ?_)
  obtain rfl := sj hm0
  exact ⟨H20, rfl, hO.done⟩
theorem fleet_Fleet_answer_ok {w0 : World} {H0 : IHeap} {p0 : FleetFleet} {p1 : ApiMsg}  {g1_ : Nat} {cs2_ : List Value} {A4_ : Option Addr} {c5_ : Nat} {cs6_ : List Value} {A8_ : Option Addr} {c9_ : Nat} {cs10_ : List Value} {A12_ : Option Addr} {c12_ : Nat} {M : List Nat} (hO : St w0 H0 M H0 (ol [(0, .blk g1_ cs2_ 93), (1, .row A4_ c5_ 61 (eSl (eInt .i64)).size p0.answers.length cs6_), (2, .row A8_ c9_ 4 eBool.size p0.answered.length cs10_)]) w0) (h3_ : Enc.rep (eFleetFleet (.slice A4_ p0.answers.length c5_) (.slice A8_ p0.answered.length c9_)) H0 cs2_ p0) (h7_ : Rows (eSl (eInt .i64)) H0 cs6_ p0.answers) (h11_ : Rows eBool H0 cs10_ p0.answered) (h12_ : RS (eInt .i64) H0 A12_ c12_ p1.Vec) {res : FleetFleet} (hm0 : fleet_Fleet_answer p0 p1 = some res) :
  OkM prog 49 [(.pointer (some ⟨g1_, 0, none⟩)), (.agg #[(.int .i64 p1.Kind), (.int .i64 p1.From), (.int .i64 p1.To), (.int .i64 p1.Seq), (.int .i64 p1.Batch), (.int .i64 p1.Layer), (.int .i64 p1.Token), (.int .i64 p1.Rank), (.int .i64 p1.Expert), (.int .i64 p1.Epoch), (.slice A12_ p1.Vec.length c12_)])].toArray w0 H0 M (fun H' O' v => ∃ (cs1 : List Value) (A1_0 : Option Addr) (c1_0 : Nat) (cs1_0 : List Value) (A1_1 : Option Addr) (c1_1 : Nat) (cs1_1 : List Value), v = (.tuple #[]) ∧ Enc.rep (eFleetFleet (.slice A1_0 res.answers.length c1_0) (.slice A1_1 res.answered.length c1_1)) H' cs1 res ∧ Rows (eSl (eInt .i64)) H' cs1_0 res.answers ∧ Rows eBool H' cs1_1 res.answered ∧ O' 0 = some (.blk g1_ cs1 93) ∧ O' 1 = some (.row A1_0 c1_0 61 (eSl (eInt .i64)).size res.answers.length cs1_0) ∧ O' 2 = some (.row A1_1 c1_1 4 eBool.size res.answered.length cs1_1)) := by
 unfold fleet_Fleet_answer at hm0
 refine (okM_of_W Tryz.func49 rfl Tryz.ntmps49 (rs := []) rfl rfl ?_)
 refine seq (region (o_box 3 [(.int .i64 p1.Kind), (.int .i64 p1.From), (.int .i64 p1.To), (.int .i64 p1.Seq), (.int .i64 p1.Batch), (.int .i64 p1.Layer), (.int .i64 p1.Token), (.int .i64 p1.Rank), (.int .i64 p1.Expert), (.int .i64 p1.Epoch), (.slice A12_ p1.Vec.length c12_)] hO rfl ?_))
 intro g1 w2 hO
 refine nil (seq (seq ?_))
 have hO := hO.pick [(0, .blk g1_ cs2_ 93), (3, .blk g1 [(.int .i64 p1.Kind), (.int .i64 p1.From), (.int .i64 p1.To), (.int .i64 p1.Seq), (.int .i64 p1.Batch), (.int .i64 p1.Layer), (.int .i64 p1.Token), (.int .i64 p1.Rank), (.int .i64 p1.Expert), (.int .i64 p1.Epoch), (.slice A12_ p1.Vec.length c12_)] 109), (1, .row A4_ c5_ 61 (eSl (eInt .i64)).size p0.answers.length cs6_), (2, .row A8_ c9_ 4 eBool.size p0.answered.length cs10_)] ⟨rfl, rfl, rfl, rfl, trivial⟩
 refine W.draw (SD w0 H0 M H0 [(0, .blk g1_ cs2_ 93), (3, .blk g1 [(.int .i64 p1.Kind), (.int .i64 p1.From), (.int .i64 p1.To), (.int .i64 p1.Seq), (.int .i64 p1.Batch), (.int .i64 p1.Layer), (.int .i64 p1.Token), (.int .i64 p1.Rank), (.int .i64 p1.Expert), (.int .i64 p1.Epoch), (.slice A12_ p1.Vec.length c12_)] 109)]) (fun i => ([] : List Nat).contains i) mixed 41 rfl _ rfl ?_
 intro w3 hh1 hh2 hh3 hh4; have hO := hO.same hh1 hh2 hh3 hh4; clear hh1 hh2 hh3 hh4
 have hS : SD w0 H0 M H0 [(0, .blk g1_ cs2_ 93), (3, .blk g1 [(.int .i64 p1.Kind), (.int .i64 p1.From), (.int .i64 p1.To), (.int .i64 p1.Seq), (.int .i64 p1.Batch), (.int .i64 p1.Layer), (.int .i64 p1.Token), (.int .i64 p1.Rank), (.int .i64 p1.Expert), (.int .i64 p1.Epoch), (.slice A12_ p1.Vec.length c12_)] 109)] w3 := ⟨_, _, Le.refl _, hO, ⟨rfl, rfl, trivial⟩⟩
 refine take (i := 0) rfl (by kernel_rfl) (fun w hS => x_fa rfl fo109_0) hS ?_
 refine take (i := 1) rfl (by kernel_rfl) (fun w hS => x_ldD 3 (.int .i64 p1.Kind) hS rfl rfl rfl one3) hS ?_
 refine take (i := 2) rfl (by kernel_rfl) (fun w hS => x_neq rfl rfl) hS ?_
 refine take (i := 3) rfl (by kernel_rfl) (fun w hS => x_move (.bool (p1.Kind != 2)) rfl) hS ?_
 refine WA.gtake (i := 4) rfl rfl rfl (by kernel_rfl) (fun hb w hS => x_fa rfl fo109_4) hS ?_
 refine WA.gtake (i := 5) rfl rfl rfl (by kernel_rfl) (fun hb w hS => x_ldD 3 (.int .i64 p1.Batch) hS rfl (gv hb) rfl one3) hS ?_
 refine WA.gtake (i := 6) rfl rfl rfl (by kernel_rfl) (fun hb w hS => x_neq (gv hb) rfl) hS ?_
 refine take (i := 7) rfl (by kernel_rfl) (fun w hS => x_pick rfl (.bool ((p1.Kind != 2) || (p1.Batch != 1))) pick_or) hS ?_
 refine take (i := 8) rfl (by kernel_rfl) (fun w hS => x_move (.bool ((p1.Kind != 2) || (p1.Batch != 1))) rfl) hS ?_
 refine WA.gtake (i := 9) rfl rfl rfl (by kernel_rfl) (fun hb w hS => x_fa rfl fo109_5) hS ?_
 refine WA.gtake (i := 10) rfl rfl rfl (by kernel_rfl) (fun hb w hS => x_ldD 3 (.int .i64 p1.Layer) hS rfl (gv hb) rfl one3) hS ?_
 refine WA.gtake (i := 11) rfl rfl rfl (by kernel_rfl) (fun hb w hS => x_move (.pointer (some ⟨g1_, 0, none⟩)) rfl) hS ?_
 refine WA.gtake (i := 12) rfl rfl rfl (by kernel_rfl) (fun hb w hS => x_nilCheck (gv hb)) hS ?_
 refine WA.gtake (i := 13) rfl rfl rfl (by kernel_rfl) (fun hb w hS => x_fa (gv hb) fo93_5) hS ?_
 obtain ⟨cs4, hr5, hc6⟩ := lFleetFleet_at_.part _ _ _ h3_
 obtain rfl := hr5
 refine WA.gtake (i := 14) rfl rfl rfl (by kernel_rfl) (fun hb w hS => x_ldD 0 (.int .i64 p0.at_) hS rfl (gv hb) (hc6 0 _ rfl) one3) hS ?_
 refine WA.gtake (i := 15) rfl rfl rfl (by kernel_rfl) (fun hb w hS => x_neq (gv hb) (gv hb)) hS ?_
 refine take (i := 16) rfl (by kernel_rfl) (fun w hS => x_pick rfl (.bool (((p1.Kind != 2) || (p1.Batch != 1)) || (p1.Layer != p0.at_))) pick_or) hS ?_
 refine take (i := 17) rfl (by kernel_rfl) (fun w hS => x_move (.bool (((p1.Kind != 2) || (p1.Batch != 1)) || (p1.Layer != p0.at_))) rfl) hS ?_
 refine WA.gtake (i := 18) rfl rfl rfl (by kernel_rfl) (fun hb w hS => x_fa rfl fo109_10) hS ?_
 refine WA.gtake (i := 19) rfl rfl rfl (by kernel_rfl) (fun hb w hS => x_ldD 3 (.slice A12_ p1.Vec.length c12_) hS rfl (gv hb) rfl one61) hS ?_
 refine WA.gtake (i := 20) rfl rfl rfl (by kernel_rfl) (fun hb w hS => x_len (gv hb) underlying61) hS ?_
 refine WA.gtake (i := 21) rfl rfl rfl (by kernel_rfl) (fun hb w hS => x_move (.pointer (some ⟨g1_, 0, none⟩)) rfl) hS ?_
 refine WA.gtake (i := 22) rfl rfl rfl (by kernel_rfl) (fun hb w hS => x_nilCheck (gv hb)) hS ?_
 refine WA.gtake (i := 23) rfl rfl rfl (by kernel_rfl) (fun hb w hS => x_fa (gv hb) fo93_0) hS ?_
 refine WA.gtake (i := 24) rfl rfl rfl (by kernel_rfl) (fun hb w hS => x_fa (gv hb) fo24_0) hS ?_
 obtain ⟨cs7, hr8, hc9⟩ := (Part.comp lFleetFleet_m.part pApiModel_Dim) _ _ _ h3_
 obtain rfl := hr8
 refine WA.gtake (i := 25) rfl rfl rfl (by kernel_rfl) (fun hb w hS => x_ldD 0 (.int .i64 p0.m.Dim) hS rfl (gv hb) (hc9 0 _ rfl) one3) hS ?_
 refine WA.gtake (i := 26) rfl rfl rfl (by kernel_rfl) (fun hb w hS => x_neq (gv hb) (gv hb)) hS ?_
 refine take (i := 27) rfl (by kernel_rfl) (fun w hS => x_pick rfl (.bool ((((p1.Kind != 2) || (p1.Batch != 1)) || (p1.Layer != p0.at_)) || ((p1.Vec.length : Int) != p0.m.Dim))) pick_or) hS ?_
 refine take (i := 28) rfl (by kernel_rfl) (fun w hS => x_move (.bool ((((p1.Kind != 2) || (p1.Batch != 1)) || (p1.Layer != p0.at_)) || ((p1.Vec.length : Int) != p0.m.Dim))) rfl) hS ?_
 refine WA.gtake (i := 29) rfl rfl rfl (by kernel_rfl) (fun hb w hS => x_move (.pointer (some ⟨g1_, 0, none⟩)) rfl) hS ?_
 refine WA.gtake (i := 30) rfl rfl rfl (by kernel_rfl) (fun hb w hS => x_nilCheck (gv hb)) hS ?_
 refine WA.gtake (i := 31) rfl rfl rfl (by kernel_rfl) (fun hb w hS => x_fa (gv hb) fo93_5) hS ?_
 obtain ⟨cs10, hr11, hc12⟩ := lFleetFleet_at_.part _ _ _ h3_
 obtain rfl := hr11
 refine WA.gtake (i := 32) rfl rfl rfl (by kernel_rfl) (fun hb w hS => x_ldD 0 (.int .i64 p0.at_) hS rfl (gv hb) (hc12 0 _ rfl) one3) hS ?_
 refine WA.gtake (i := 33) rfl rfl rfl (by kernel_rfl) (fun hb w hS => x_move (.pointer (some ⟨g1_, 0, none⟩)) rfl) hS ?_
 refine WA.gtake (i := 34) rfl rfl rfl (by kernel_rfl) (fun hb w hS => x_nilCheck (gv hb)) hS ?_
 refine WA.gtake (i := 35) rfl rfl rfl (by kernel_rfl) (fun hb w hS => x_fa (gv hb) fo93_0) hS ?_
 refine WA.gtake (i := 36) rfl rfl rfl (by kernel_rfl) (fun hb w hS => x_fa (gv hb) fo24_1) hS ?_
 obtain ⟨cs13, hr14, hc15⟩ := (Part.comp lFleetFleet_m.part pApiModel_Layers) _ _ _ h3_
 obtain ⟨A16, c17, rfl, h18⟩ := hr14
 refine WA.gtake (i := 37) rfl rfl rfl (by kernel_rfl) (fun hb w hS => x_ldD 0 (.slice A16 p0.m.Layers.length c17) hS rfl (gv hb) (hc15 0 _ rfl) one22) hS ?_
 refine WA.gtake (i := 38) rfl rfl rfl (by kernel_rfl) (fun hb w hS => x_len (gv hb) underlying22) hS ?_
 refine WA.gtake (i := 39) rfl rfl rfl (by kernel_rfl) (fun hb w hS => x_geq (gv hb) (gv hb)) hS ?_
 refine take (i := 40) rfl (by kernel_rfl) (fun w hS => x_pick rfl (.bool (((((p1.Kind != 2) || (p1.Batch != 1)) || (p1.Layer != p0.at_)) || ((p1.Vec.length : Int) != p0.m.Dim)) || (decide ((p0.m.Layers.length : Int) ≤ p0.at_)))) pick_or) hS ?_
 refine WA.done (by kernel_rfl) ?_
 refine test rfl hm0 ?_ ?_
 ·intro hb19 hm0
  refine W.ret ?_
  obtain rfl := sj hm0
  exact ⟨[], trivial, H0, _, ⟨cs2_, A4_, c5_, cs6_, A8_, c9_, cs10_, rfl, h3_, h7_, h11_, rfl, rfl, rfl⟩, hO.relabel [(0, .blk g1_ cs2_ 93), (1, .row A4_ c5_ 61 (eSl (eInt .i64)).size p0.answers.length cs6_), (2, .row A8_ c9_ 4 eBool.size p0.answered.length cs10_)] ⟨rfl, rfl, rfl, trivial⟩ (names_nd (ns := [0, 1, 2]) rfl (by decide))⟩
 ·intro hb19 hm0
  refine skip (seq (region (val (x_move (.pointer (some ⟨g1_, 0, none⟩)) rfl) ?_)))
  refine val (x_nilCheck rfl) ?_
  refine val (x_fa rfl fo93_6) ?_
  obtain ⟨cs20, hr21, hc22⟩ := lFleetFleet_parts.part _ _ _ h3_
  obtain ⟨A23, c24, rfl, h25⟩ := hr21
  refine val (x_ld 0 (.slice A23 p0.parts.length c24) hO rfl rfl (hc22 0 _ rfl) one90) ?_
  obtain ⟨H26, le27, h28, hO⟩ := hO.freezeBlk (en := eApiMsg) (x := p1) 3 rfl ⟨A12_, c12_, rfl, h12_⟩
  refine val (x_fun [(.pointer (some (⟨g1, 0, none⟩)))] rfl) ?_
  obtain ⟨t29, ht30, hm0⟩ := bindSome hm0
  refine o_call hO go95 (slices_IndexFunc_model_Part_fleet_Fleet_answer_1_ok hO.sub (h25.up le27) h28 ht30) rfl ?_
  rintro _ H31 w32 le33 rfl hO
  refine val (x_assign (.int .i64 t29) rfl) ?_
  refine nil (seq (seq (region (val (x_move (.int .i64 t29) rfl) ?_))))
  refine val (x_lss rfl rfl) ?_
  refine val (x_move (.bool (decide (t29 < 0))) rfl) ?_
  refine gval rfl rfl (fun hb => x_move (.pointer (some ⟨g1_, 0, none⟩)) rfl) ?_
  refine gval rfl rfl (fun hb => x_nilCheck (gv hb)) ?_
  refine gval rfl rfl (fun hb => x_fa (gv hb) fo93_8) ?_
  refine gval rfl rfl (fun hb => x_ld 0 (.slice A8_ p0.answered.length c9_) hO rfl (gv hb) (gFleetFleet_answered (Enc.mono _ (le27.trans le33) h3_)) one91) ?_
  refine gval rfl rfl (fun hb => x_move (.int .i64 t29) rfl) ?_
  rcases btest hm0 with ⟨hb34, hm0⟩ | ⟨hb34, hm0⟩
  ·refine no rfl (kb rfl hb34) rfl ?_
   refine no rfl (kb rfl hb34) rfl ?_
   refine val (x_pick_t (kb rfl hb34) (.bool true) rfl) ?_
   refine nil (W.cond_t rfl ?_)
   refine W.ret ?_
   obtain rfl := sj hm0
   exact ⟨[], trivial, H31, _, ⟨cs2_, A4_, c5_, cs6_, A8_, c9_, cs10_, rfl, (Enc.mono _ (le27.trans le33) h3_), (h7_.up (le27.trans le33)), (h11_.up (le27.trans le33)), rfl, rfl, rfl⟩, hO.relabel [(0, .blk g1_ cs2_ 93), (1, .row A4_ c5_ 61 (eSl (eInt .i64)).size p0.answers.length cs6_), (2, .row A8_ c9_ 4 eBool.size p0.answered.length cs10_)] ⟨rfl, rfl, rfl, trivial⟩ (names_nd (ns := [0, 1, 2]) rfl (by decide))⟩
  ·refine yes rfl (kb rfl hb34) ?_
   obtain ⟨hin35, hm0⟩ := chk hm0
   obtain ⟨hc36, g37, o38, hA39⟩ := hO.rowA (k := 2) rfl hin35
   refine val (x_ia (sA (by exact gkF hb34) hA39) (by exact gkF hb34) sle91 hin35) ?_
   obtain ⟨cs40, hr41, hc42⟩ := row_elem (en := eBool) (k := 2) hO rfl (h11_.up (le27.trans le33)) hc36 hA39 (at0_some hin35)
   obtain rfl := hr41
   refine yes rfl (kb rfl hb34) ?_
   refine val (x_ldc rfl (by rw [addr_add]; exact hc42 0 _ rfl) one4) ?_
   refine val (x_pick_f (kb rfl hb34) (.bool (at0 p0.answered t29)) rfl) ?_
   refine nil (test rfl hm0 ?_ ?_)
   ·intro hb43 hm0
    refine W.ret ?_
    obtain rfl := sj hm0
    exact ⟨[], trivial, H31, _, ⟨cs2_, A4_, c5_, cs6_, A8_, c9_, cs10_, rfl, (Enc.mono _ (le27.trans le33) h3_), (h7_.up (le27.trans le33)), (h11_.up (le27.trans le33)), rfl, rfl, rfl⟩, hO.relabel [(0, .blk g1_ cs2_ 93), (1, .row A4_ c5_ 61 (eSl (eInt .i64)).size p0.answers.length cs6_), (2, .row A8_ c9_ 4 eBool.size p0.answered.length cs10_)] ⟨rfl, rfl, rfl, trivial⟩ (names_nd (ns := [0, 1, 2]) rfl (by decide))⟩
   ·intro hb43 hm0
    refine skip (seq ?_)
    have hO := hO.pick [(0, .blk g1_ cs2_ 93), (1, .row A4_ c5_ 61 (eSl (eInt .i64)).size p0.answers.length cs6_), (2, .row A8_ c9_ 4 eBool.size p0.answered.length cs10_)] ⟨rfl, rfl, rfl, trivial⟩
    refine W.draw (SD w0 H0 M H31 [(0, .blk g1_ cs2_ 93)]) (fun i => ([] : List Nat).contains i) mixed 16 rfl _ rfl ?_
    intro w44 hh1 hh2 hh3 hh4; have hO := hO.same hh1 hh2 hh3 hh4; clear hh1 hh2 hh3 hh4
    have hS : SD w0 H0 M H31 [(0, .blk g1_ cs2_ 93)] w44 := ⟨_, _, Le.refl _, hO, ⟨rfl, trivial⟩⟩
    refine take (i := 0) rfl (by kernel_rfl) (fun w hS => x_move (.pointer (some ⟨g1_, 0, none⟩)) rfl) hS ?_
    refine take (i := 1) rfl (by kernel_rfl) (fun w hS => x_nilCheck rfl) hS ?_
    refine take (i := 2) rfl (by kernel_rfl) (fun w hS => x_fa rfl fo93_7) hS ?_
    refine take (i := 3) rfl (by kernel_rfl) (fun w hS => x_ldD 0 (.slice A4_ p0.answers.length c5_) hS rfl rfl (gFleetFleet_answers (Enc.mono _ (le27.trans le33) h3_)) one25) hS ?_
    refine take (i := 4) rfl (by kernel_rfl) (fun w hS => x_move (.int .i64 t29) rfl) hS ?_
    refine take (i := 5) rfl (by kernel_rfl) (fun w hS => x_move (.pointer (some ⟨g1_, 0, none⟩)) rfl) hS ?_
    refine take (i := 6) rfl (by kernel_rfl) (fun w hS => x_nilCheck rfl) hS ?_
    refine take (i := 7) rfl (by kernel_rfl) (fun w hS => x_fa rfl fo93_8) hS ?_
    refine take (i := 8) rfl (by kernel_rfl) (fun w hS => x_ldD 0 (.slice A8_ p0.answered.length c9_) hS rfl rfl (gFleetFleet_answered (Enc.mono _ (le27.trans le33) h3_)) one91) hS ?_
    refine take (i := 9) rfl (by kernel_rfl) (fun w hS => x_move (.int .i64 t29) rfl) hS ?_
    refine take (i := 10) rfl (by kernel_rfl) (fun w hS => x_faAt rfl (h28.up le33) fo109_10) hS ?_
    obtain ⟨A45, c46, h47, hc48⟩ := At.sl ((h28.up le33).part pApiMsg_Vec)
    refine take (i := 11) rfl (by kernel_rfl) (fun w hS => x_ldc rfl (hc48 _ hS.sub) one61) hS ?_
    obtain ⟨hin49, hm0⟩ := chk hm0
    obtain ⟨hc50, g51, o52, hA53⟩ := hO.rowA (k := 1) rfl hin49
    refine take (i := 12) rfl (by kernel_rfl) (fun w hS => x_ia (sA rfl hA53) rfl sle25 hin49) hS ?_
    refine WA.only (i := 13) (by kernel_rfl) rfl ?_
    refine o_stRow (en := (eSl (eInt .i64))) (z := p1.Vec) (k := 1) (.slice A45 p1.Vec.length c46) hO rfl (h7_.up (le27.trans le33)) hc50 hA53 hin49 rfl rfl rfl ⟨A45, c46, rfl, h47⟩ siz61 ?_
    intro cs54 w55 hr56 hO
    have hr57 : Enc.rep (eFleetFleet (.slice A4_ (List.set p0.answers (Int.toNat t29) p1.Vec).length c5_) (.slice A8_ p0.answered.length c9_)) H31 cs2_ ({ p0 with answers := (List.set p0.answers (Int.toNat t29) p1.Vec) } : FleetFleet) := (wFleetFleet_answers setlenV (uFleetFleet_answers (y := (List.set p0.answers (Int.toNat t29) p1.Vec)) (Enc.mono _ (le27.trans le33) h3_)))
    have hS : SD w0 H0 M H31 [(0, .blk g1_ cs2_ 93)] _ := ⟨_, _, (Le.refl _), hO, ⟨rfl, trivial⟩⟩
    refine nil ⟨fun _ => hS, ?_⟩
    obtain ⟨hin58, hm0⟩ := chk hm0
    obtain ⟨hc59, g60, o61, hA62⟩ := hO.rowA (k := 2) rfl hin58
    refine take (i := 14) rfl (by kernel_rfl) (fun w hS => x_ia (sA rfl hA62) rfl sle91 hin58) hS ?_
    refine WA.only (i := 15) (by kernel_rfl) rfl ?_
    refine o_stRow (en := eBool) (z := true) (k := 2) (.bool true) hO rfl (h11_.up (le27.trans le33)) hc59 hA62 hin58 rfl rfl rfl rfl siz4 ?_
    intro cs63 w64 hr65 hO
    have hr66 : Enc.rep (eFleetFleet (.slice A4_ (List.set p0.answers (Int.toNat t29) p1.Vec).length c5_) (.slice A8_ (List.set p0.answered (Int.toNat t29) true).length c9_)) H31 cs2_ ({ ({ p0 with answers := (List.set p0.answers (Int.toNat t29) p1.Vec) } : FleetFleet) with answered := (List.set p0.answered (Int.toNat t29) true) } : FleetFleet) := (wFleetFleet_answered setlenV (uFleetFleet_answered (y := (List.set p0.answered (Int.toNat t29) true)) hr57))
    have hS : SD w0 H0 M H31 [(0, .blk g1_ cs2_ 93)] _ := ⟨_, _, (Le.refl _), hO, ⟨rfl, trivial⟩⟩
    refine nil ⟨fun _ => hS, ?_⟩
    refine WA.done (by kernel_rfl) ?_
    refine region (val (x_move (.pointer (some ⟨g1_, 0, none⟩)) rfl) ?_)
    obtain ⟨t67, ht68, hm0⟩ := bindSome hm0
    refine o_callL (args := [(.pointer (some ⟨g1_, 0, none⟩))]) [(0, .blk g1_ cs2_ 93), (1, .row A4_ c5_ 61 (eSl (eInt .i64)).size (List.set p0.answers (Int.toNat t29) p1.Vec).length cs54), (2, .row A8_ c9_ 4 eBool.size (List.set p0.answered (Int.toNat t29) true).length cs63)] hO ⟨rfl, rfl, rfl, trivial⟩ (names_nd (ns := [0, 1, 2]) rfl (by decide)) go41 (fleet_Fleet_come_ok (p0 := ({ ({ p0 with answers := (List.set p0.answers (Int.toNat t29) p1.Vec) } : FleetFleet) with answered := (List.set p0.answered (Int.toNat t29) true) } : FleetFleet)) (hO.enterL [(0, .blk g1_ cs2_ 93), (1, .row A4_ c5_ 61 (eSl (eInt .i64)).size (List.set p0.answers (Int.toNat t29) p1.Vec).length cs54), (2, .row A8_ c9_ 4 eBool.size (List.set p0.answered (Int.toNat t29) true).length cs63)] ⟨rfl, rfl, rfl, trivial⟩ (names_nd (ns := [0, 1, 2]) rfl (by decide))) hr66 hr56 hr65 ht68) rfl ?_
    rintro _ H69 O72 w70 le71 ⟨cs73, A76, c77, cs78, A81, c82, cs83, rfl, h74, h79, h84, hk75, hk80, hk85⟩ hO
    have hO := hO.named [.blk g1_ cs73 93, .row A76 c77 61 (eSl (eInt .i64)).size t67.answers.length cs78, .row A81 c82 4 eBool.size t67.answered.length cs83] ⟨hk75, hk80, hk85, trivial⟩
    refine nil ?_
    obtain rfl := sj hm0
    exact ⟨[], trivial, H69, _, ⟨cs73, A76, c77, cs78, A81, c82, cs83, rfl, h74, h79, h84, rfl, rfl, rfl⟩, hO.relabel [(0, .blk g1_ cs73 93), (1, .row A76 c77 61 (eSl (eInt .i64)).size t67.answers.length cs78), (2, .row A81 c82 4 eBool.size t67.answered.length cs83)] ⟨rfl, rfl, rfl, trivial⟩ (names_nd (ns := [0, 1, 2]) rfl (by decide))⟩
theorem node_fits_ok {w0 : World} {H0 : IHeap} (hS : Sub H0 w0) {p0 : ApiModel} {p1 : PlaceMap} {p2 : Int} {p3 : ApiMsg}  {A1_ : Option Addr} {c1_ : Nat} {A2_ : Option Addr} {c2_ : Nat} {A3_ : Option Addr} {c3_ : Nat} (h1_ : RS eApiLayer H0 A1_ c1_ p0.Layers) (h2_ : RS (eSl (eInt .i64)) H0 A2_ c2_ p1.Holders) (h3_ : RS (eInt .i64) H0 A3_ c3_ p3.Vec) {res : Bool} (hm0 : node_fits p0 p1 p2 p3 = some res) :
  Ok prog 97 [(.agg #[(.int .i64 p0.Dim), (.slice A1_ p0.Layers.length c1_)]), (.agg #[(.int .i64 p1.Epoch), (.slice A2_ p1.Holders.length c2_)]), (.int .i64 p2), (.agg #[(.int .i64 p3.Kind), (.int .i64 p3.From), (.int .i64 p3.To), (.int .i64 p3.Seq), (.int .i64 p3.Batch), (.int .i64 p3.Layer), (.int .i64 p3.Token), (.int .i64 p3.Rank), (.int .i64 p3.Expert), (.int .i64 p3.Epoch), (.slice A3_ p3.Vec.length c3_)])].toArray w0 H0 (fun H' v => v = (.bool res)) := by
 unfold node_fits at hm0
 refine ok_of_W Tryz.func97 rfl Tryz.ntmps97 (ts := [8]) rfl rfl rfl ?_
 have hO := St.start hS
 refine seq (region (o_box 0 [(.int .i64 p0.Dim), (.slice A1_ p0.Layers.length c1_)] hO rfl ?_))
 intro g1 w2 hO
 refine o_box 1 [(.int .i64 p1.Epoch), (.slice A2_ p1.Holders.length c2_)] hO rfl ?_
 intro g3 w4 hO
 refine o_box 2 [(.int .i64 p3.Kind), (.int .i64 p3.From), (.int .i64 p3.To), (.int .i64 p3.Seq), (.int .i64 p3.Batch), (.int .i64 p3.Layer), (.int .i64 p3.Token), (.int .i64 p3.Rank), (.int .i64 p3.Expert), (.int .i64 p3.Epoch), (.slice A3_ p3.Vec.length c3_)] hO rfl ?_
 intro g5 w6 hO
 refine val (x_assign (.bool false) rfl) ?_
 refine nil (seq ?_)
 have hO := hO.pick [(0, .blk g1 [(.int .i64 p0.Dim), (.slice A1_ p0.Layers.length c1_)] 24), (1, .blk g3 [(.int .i64 p1.Epoch), (.slice A2_ p1.Holders.length c2_)] 27), (2, .blk g5 [(.int .i64 p3.Kind), (.int .i64 p3.From), (.int .i64 p3.To), (.int .i64 p3.Seq), (.int .i64 p3.Batch), (.int .i64 p3.Layer), (.int .i64 p3.Token), (.int .i64 p3.Rank), (.int .i64 p3.Expert), (.int .i64 p3.Epoch), (.slice A3_ p3.Vec.length c3_)] 109)] ⟨rfl, rfl, rfl, trivial⟩
 refine W.draw (SD w0 H0 [] H0 [(0, .blk g1 [(.int .i64 p0.Dim), (.slice A1_ p0.Layers.length c1_)] 24), (1, .blk g3 [(.int .i64 p1.Epoch), (.slice A2_ p1.Holders.length c2_)] 27), (2, .blk g5 [(.int .i64 p3.Kind), (.int .i64 p3.From), (.int .i64 p3.To), (.int .i64 p3.Seq), (.int .i64 p3.Batch), (.int .i64 p3.Layer), (.int .i64 p3.Token), (.int .i64 p3.Rank), (.int .i64 p3.Expert), (.int .i64 p3.Epoch), (.slice A3_ p3.Vec.length c3_)] 109)]) (fun i => ([] : List Nat).contains i) mixed 50 rfl _ rfl ?_
 intro w7 hh1 hh2 hh3 hh4; have hO := hO.same hh1 hh2 hh3 hh4; clear hh1 hh2 hh3 hh4
 have hS : SD w0 H0 [] H0 [(0, .blk g1 [(.int .i64 p0.Dim), (.slice A1_ p0.Layers.length c1_)] 24), (1, .blk g3 [(.int .i64 p1.Epoch), (.slice A2_ p1.Holders.length c2_)] 27), (2, .blk g5 [(.int .i64 p3.Kind), (.int .i64 p3.From), (.int .i64 p3.To), (.int .i64 p3.Seq), (.int .i64 p3.Batch), (.int .i64 p3.Layer), (.int .i64 p3.Token), (.int .i64 p3.Rank), (.int .i64 p3.Expert), (.int .i64 p3.Epoch), (.slice A3_ p3.Vec.length c3_)] 109)] w7 := ⟨_, _, Le.refl _, hO, ⟨rfl, rfl, rfl, trivial⟩⟩
 refine take (i := 0) rfl (by kernel_rfl) (fun w hS => x_ldsD 0 [(.int .i64 p0.Dim), (.slice A1_ p0.Layers.length c1_)] hS rfl rfl agg24 rfl rfl) hS ?_
 refine WA.only (i := 1) (by kernel_rfl) rfl ?_
 obtain ⟨t8, ht9, hm0⟩ := bindSome hm0
 refine o_call hO go34 (model_Right_ok hO.sub h1_ ht9) rfl ?_
 rintro _ H10 w11 le12 rfl hO
 have hS : SD w0 H0 [] H0 [(0, .blk g1 [(.int .i64 p0.Dim), (.slice A1_ p0.Layers.length c1_)] 24), (1, .blk g3 [(.int .i64 p1.Epoch), (.slice A2_ p1.Holders.length c2_)] 27), (2, .blk g5 [(.int .i64 p3.Kind), (.int .i64 p3.From), (.int .i64 p3.To), (.int .i64 p3.Seq), (.int .i64 p3.Batch), (.int .i64 p3.Layer), (.int .i64 p3.Token), (.int .i64 p3.Rank), (.int .i64 p3.Expert), (.int .i64 p3.Epoch), (.slice A3_ p3.Vec.length c3_)] 109)] _ := ⟨_, _, le12, hO, ⟨rfl, rfl, rfl, trivial⟩⟩
 refine nil ⟨fun _ => hS, ?_⟩
 refine take (i := 2) rfl (by kernel_rfl) (fun w hS => x_move (.bool t8) rfl) hS ?_
 refine WA.gtake (i := 3) rfl rfl rfl (by kernel_rfl) (fun hb w hS => x_ldsD 1 [(.int .i64 p1.Epoch), (.slice A2_ p1.Holders.length c2_)] hS rfl rfl agg27 rfl rfl) hS ?_
 refine WA.only (i := 4) (by kernel_rfl) rfl ?_
 rcases btest hm0 with ⟨hb13, hm0⟩ | ⟨hb13, hm0⟩
 ·refine yes rfl (kb rfl hb13) ?_
  obtain ⟨t14, ht15, hm0⟩ := bindSome hm0
  refine o_call hO go36 (place_Right_ok hO.sub (h2_.up le12) ht15) (args1 (by exact gkT hb13)) ?_
  rintro _ H16 w17 le18 rfl hO
  have hS : SD w0 H0 [] H0 [(0, .blk g1 [(.int .i64 p0.Dim), (.slice A1_ p0.Layers.length c1_)] 24), (1, .blk g3 [(.int .i64 p1.Epoch), (.slice A2_ p1.Holders.length c2_)] 27), (2, .blk g5 [(.int .i64 p3.Kind), (.int .i64 p3.From), (.int .i64 p3.To), (.int .i64 p3.Seq), (.int .i64 p3.Batch), (.int .i64 p3.Layer), (.int .i64 p3.Token), (.int .i64 p3.Rank), (.int .i64 p3.Expert), (.int .i64 p3.Epoch), (.slice A3_ p3.Vec.length c3_)] 109)] _ := ⟨_, _, (le12.trans le18), hO, ⟨rfl, rfl, rfl, trivial⟩⟩
  refine nil ⟨fun _ => hS, ?_⟩
  refine take (i := 5) rfl (by kernel_rfl) (fun w hS => x_pick_t (kb rfl hb13) (.bool t14) rfl) hS ?_
  refine take (i := 6) rfl (by kernel_rfl) (fun w hS => x_move (.bool t14) rfl) hS ?_
  refine WA.gtake (i := 7) rfl rfl rfl (by kernel_rfl) (fun hb w hS => x_ldsD 2 [(.int .i64 p3.Kind), (.int .i64 p3.From), (.int .i64 p3.To), (.int .i64 p3.Seq), (.int .i64 p3.Batch), (.int .i64 p3.Layer), (.int .i64 p3.Token), (.int .i64 p3.Rank), (.int .i64 p3.Expert), (.int .i64 p3.Epoch), (.slice A3_ p3.Vec.length c3_)] hS rfl rfl agg109 rfl rfl) hS ?_
  refine WA.only (i := 8) (by kernel_rfl) rfl ?_
  rcases btest hm0 with ⟨hb19, hm0⟩ | ⟨hb19, hm0⟩
  ·refine yes rfl (kb rfl hb19) ?_
   obtain ⟨t20, ht21, hm0⟩ := bindSome hm0
   refine o_call hO go94 (wire_Right_ok hO.sub (h3_.up (le12.trans le18)) ht21) (args1 (by exact gkT hb19)) ?_
   rintro _ H22 w23 le24 rfl hO
   have hS : SD w0 H0 [] H0 [(0, .blk g1 [(.int .i64 p0.Dim), (.slice A1_ p0.Layers.length c1_)] 24), (1, .blk g3 [(.int .i64 p1.Epoch), (.slice A2_ p1.Holders.length c2_)] 27), (2, .blk g5 [(.int .i64 p3.Kind), (.int .i64 p3.From), (.int .i64 p3.To), (.int .i64 p3.Seq), (.int .i64 p3.Batch), (.int .i64 p3.Layer), (.int .i64 p3.Token), (.int .i64 p3.Rank), (.int .i64 p3.Expert), (.int .i64 p3.Epoch), (.slice A3_ p3.Vec.length c3_)] 109)] _ := ⟨_, _, (le12.trans (le18.trans le24)), hO, ⟨rfl, rfl, rfl, trivial⟩⟩
   refine nil ⟨fun _ => hS, ?_⟩
   refine take (i := 9) rfl (by kernel_rfl) (fun w hS => x_pick_t (kb rfl hb19) (.bool t20) rfl) hS ?_
   refine take (i := 10) rfl (by kernel_rfl) (fun w hS => x_move (.bool t20) rfl) hS ?_
   refine WA.gtake (i := 11) rfl rfl rfl (by kernel_rfl) (fun hb w hS => x_fa rfl fo109_0) hS ?_
   refine WA.gtake (i := 12) rfl rfl rfl (by kernel_rfl) (fun hb w hS => x_ldD 2 (.int .i64 p3.Kind) hS rfl (gv hb) rfl one3) hS ?_
   refine WA.gtake (i := 13) rfl rfl rfl (by kernel_rfl) (fun hb w hS => x_eql (gv hb) rfl) hS ?_
   refine take (i := 14) rfl (by kernel_rfl) (fun w hS => x_pick rfl (.bool (t20 && (p3.Kind == 1))) pick_and) hS ?_
   refine take (i := 15) rfl (by kernel_rfl) (fun w hS => x_move (.bool (t20 && (p3.Kind == 1))) rfl) hS ?_
   refine WA.gtake (i := 16) rfl rfl rfl (by kernel_rfl) (fun hb w hS => x_fa rfl fo109_2) hS ?_
   refine WA.gtake (i := 17) rfl rfl rfl (by kernel_rfl) (fun hb w hS => x_ldD 2 (.int .i64 p3.To) hS rfl (gv hb) rfl one3) hS ?_
   refine WA.gtake (i := 18) rfl rfl rfl (by kernel_rfl) (fun hb w hS => x_move (.int .i64 p2) rfl) hS ?_
   refine WA.gtake (i := 19) rfl rfl rfl (by kernel_rfl) (fun hb w hS => x_eql (gv hb) (gv hb)) hS ?_
   refine take (i := 20) rfl (by kernel_rfl) (fun w hS => x_pick rfl (.bool ((t20 && (p3.Kind == 1)) && (p3.To == p2))) pick_and) hS ?_
   refine take (i := 21) rfl (by kernel_rfl) (fun w hS => x_move (.bool ((t20 && (p3.Kind == 1)) && (p3.To == p2))) rfl) hS ?_
   refine WA.gtake (i := 22) rfl rfl rfl (by kernel_rfl) (fun hb w hS => x_fa rfl fo109_5) hS ?_
   refine WA.gtake (i := 23) rfl rfl rfl (by kernel_rfl) (fun hb w hS => x_ldD 2 (.int .i64 p3.Layer) hS rfl (gv hb) rfl one3) hS ?_
   refine WA.gtake (i := 24) rfl rfl rfl (by kernel_rfl) (fun hb w hS => x_fa rfl fo24_1) hS ?_
   refine WA.gtake (i := 25) rfl rfl rfl (by kernel_rfl) (fun hb w hS => x_ldD 0 (.slice A1_ p0.Layers.length c1_) hS rfl (gv hb) rfl one22) hS ?_
   refine WA.gtake (i := 26) rfl rfl rfl (by kernel_rfl) (fun hb w hS => x_len (gv hb) underlying22) hS ?_
   refine WA.gtake (i := 27) rfl rfl rfl (by kernel_rfl) (fun hb w hS => x_lss (gv hb) (gv hb)) hS ?_
   refine take (i := 28) rfl (by kernel_rfl) (fun w hS => x_pick rfl (.bool (((t20 && (p3.Kind == 1)) && (p3.To == p2)) && (decide (p3.Layer < (p0.Layers.length : Int))))) pick_and) hS ?_
   refine take (i := 29) rfl (by kernel_rfl) (fun w hS => x_move (.bool (((t20 && (p3.Kind == 1)) && (p3.To == p2)) && (decide (p3.Layer < (p0.Layers.length : Int))))) rfl) hS ?_
   refine WA.gtake (i := 30) rfl rfl rfl (by kernel_rfl) (fun hb w hS => x_fa rfl fo109_8) hS ?_
   refine WA.gtake (i := 31) rfl rfl rfl (by kernel_rfl) (fun hb w hS => x_ldD 2 (.int .i64 p3.Expert) hS rfl (gv hb) rfl one3) hS ?_
   refine WA.gtake (i := 32) rfl rfl rfl (by kernel_rfl) (fun hb w hS => x_fa rfl fo24_1) hS ?_
   refine WA.gtake (i := 33) rfl rfl rfl (by kernel_rfl) (fun hb w hS => x_ldD 0 (.slice A1_ p0.Layers.length c1_) hS rfl (gv hb) rfl one22) hS ?_
   refine WA.gtake (i := 34) rfl rfl rfl (by kernel_rfl) (fun hb w hS => x_fa rfl fo109_5) hS ?_
   refine WA.gtake (i := 35) rfl rfl rfl (by kernel_rfl) (fun hb w hS => x_ldD 2 (.int .i64 p3.Layer) hS rfl (gv hb) rfl one3) hS ?_
   rcases btest hm0 with ⟨hb25, hm0⟩ | ⟨hb25, hm0⟩
   ·obtain ⟨hin29, hm0⟩ := chk hm0
    obtain ⟨a26, h27, hA28⟩ := RS.at_ (h1_.up (le12.trans (le18.trans le24))) hin29
    refine WA.takeY (i := 36) rfl rfl (kb rfl hb25) (by kernel_rfl) (fun w hS => x_ia (sA (by exact gkT hb25) hA28) (by exact gkT hb25) sle22 hin29) hS ?_
    refine WA.takeY (i := 37) rfl rfl (kb rfl hb25) (by kernel_rfl) (fun w hS => x_faAt rfl h27 fo41_1) hS ?_
    refine WA.only (i := 38) (by kernel_rfl) rfl ?_
    obtain ⟨A30, c31, h32, hc33⟩ := At.sl (h27.part pApiLayer_Experts)
    refine yes rfl (kb rfl hb25) ?_
    refine val (x_ldc rfl (hc33 _ hO.sub) one39) ?_
    have hS : SD w0 H0 [] H0 [(0, .blk g1 [(.int .i64 p0.Dim), (.slice A1_ p0.Layers.length c1_)] 24), (1, .blk g3 [(.int .i64 p1.Epoch), (.slice A2_ p1.Holders.length c2_)] 27), (2, .blk g5 [(.int .i64 p3.Kind), (.int .i64 p3.From), (.int .i64 p3.To), (.int .i64 p3.Seq), (.int .i64 p3.Batch), (.int .i64 p3.Layer), (.int .i64 p3.Token), (.int .i64 p3.Rank), (.int .i64 p3.Expert), (.int .i64 p3.Epoch), (.slice A3_ p3.Vec.length c3_)] 109)] _ := ⟨_, _, (le12.trans (le18.trans le24)), hO, ⟨rfl, rfl, rfl, trivial⟩⟩
    refine nil ⟨fun _ => hS, ?_⟩
    refine WA.takeY (i := 39) rfl rfl (kb rfl hb25) (by kernel_rfl) (fun w hS => x_len rfl underlying39) hS ?_
    refine WA.takeY (i := 40) rfl rfl (kb rfl hb25) (by kernel_rfl) (fun w hS => x_lss (by exact gkT hb25) rfl) hS ?_
    refine take (i := 41) rfl (by kernel_rfl) (fun w hS => x_pick_t (kb rfl hb25) (.bool (decide (p3.Expert < (((at0 p0.Layers p3.Layer).Experts).length : Int)))) rfl) hS ?_
    refine take (i := 42) rfl (by kernel_rfl) (fun w hS => x_move (.bool (decide (p3.Expert < (((at0 p0.Layers p3.Layer).Experts).length : Int)))) rfl) hS ?_
    refine WA.gtake (i := 43) rfl rfl rfl (by kernel_rfl) (fun hb w hS => x_ldsD 0 [(.int .i64 p0.Dim), (.slice A1_ p0.Layers.length c1_)] hS rfl rfl agg24 rfl rfl) hS ?_
    refine WA.gtake (i := 44) rfl rfl rfl (by kernel_rfl) (fun hb w hS => x_fa rfl fo109_10) hS ?_
    refine WA.gtake (i := 45) rfl rfl rfl (by kernel_rfl) (fun hb w hS => x_ldD 2 (.slice A3_ p3.Vec.length c3_) hS rfl (gv hb) rfl one61) hS ?_
    refine WA.only (i := 46) (by kernel_rfl) rfl ?_
    rcases btest hm0 with ⟨hb34, hm0⟩ | ⟨hb34, hm0⟩
    ·refine yes rfl (kb rfl hb34) ?_
     refine o_litT (en := (eSl (eInt .i64))) 3 [(.slice A3_ p3.Vec.length c3_)] ([p3.Vec] : List (List Int)) hO sli25 ⟨⟨A3_, c3_, rfl, (h3_.up (le12.trans (le18.trans le24)))⟩, trivial⟩ (Bp.eq' (vs := numb 0 [(.slice A3_ p3.Vec.length c3_)]) ⟨rfl, (by exact gkT hb34), trivial⟩) rfl rfl ?_
     intro g35 cs36 w37 hr38 hO
     have hS : SD w0 H0 [] H0 [(0, .blk g1 [(.int .i64 p0.Dim), (.slice A1_ p0.Layers.length c1_)] 24), (1, .blk g3 [(.int .i64 p1.Epoch), (.slice A2_ p1.Holders.length c2_)] 27), (2, .blk g5 [(.int .i64 p3.Kind), (.int .i64 p3.From), (.int .i64 p3.To), (.int .i64 p3.Seq), (.int .i64 p3.Batch), (.int .i64 p3.Layer), (.int .i64 p3.Token), (.int .i64 p3.Rank), (.int .i64 p3.Expert), (.int .i64 p3.Epoch), (.slice A3_ p3.Vec.length c3_)] 109)] _ := ⟨_, _, (le12.trans (le18.trans le24)), hO, ⟨rfl, rfl, rfl, trivial⟩⟩
     refine nil ⟨fun _ => hS, ?_⟩
     refine WA.only (i := 47) (by kernel_rfl) rfl ?_
     refine yes rfl (kb rfl hb34) ?_
     obtain ⟨H39, le40, h41, hO⟩ := hO.freezeRow (en := (eSl (eInt .i64))) 3 rfl rfl rfl hr38
     obtain ⟨t42, ht43, hm0⟩ := bindSome hm0
     refine o_call hO go35 (model_Tokens_ok hO.sub (h1_.up (le12.trans (le18.trans (le24.trans le40)))) h41 ht43) (args2 (by exact gkT hb34) rfl) ?_
     rintro _ H44 w45 le46 rfl hO
     have hS : SD w0 H0 [] H0 [(0, .blk g1 [(.int .i64 p0.Dim), (.slice A1_ p0.Layers.length c1_)] 24), (1, .blk g3 [(.int .i64 p1.Epoch), (.slice A2_ p1.Holders.length c2_)] 27), (2, .blk g5 [(.int .i64 p3.Kind), (.int .i64 p3.From), (.int .i64 p3.To), (.int .i64 p3.Seq), (.int .i64 p3.Batch), (.int .i64 p3.Layer), (.int .i64 p3.Token), (.int .i64 p3.Rank), (.int .i64 p3.Expert), (.int .i64 p3.Epoch), (.slice A3_ p3.Vec.length c3_)] 109)] _ := ⟨_, _, (le12.trans (le18.trans (le24.trans (le40.trans le46)))), hO, ⟨rfl, rfl, rfl, trivial⟩⟩
     refine nil ⟨fun _ => hS, ?_⟩
     refine take (i := 48) rfl (by kernel_rfl) (fun w hS => x_pick_t (kb rfl hb34) (.bool t42) rfl) hS ?_
     refine take (i := 49) rfl (by kernel_rfl) (fun w hS => x_assign (.bool t42) rfl) hS ?_
     refine WA.done (by kernel_rfl) ?_
     refine W.ret ?_
     obtain rfl := sj hm0
     exact ⟨H44, rfl, hO.done⟩
    ·refine no rfl (kb rfl hb34) rfl ?_
     have hS : SD w0 H0 [] H0 [(0, .blk g1 [(.int .i64 p0.Dim), (.slice A1_ p0.Layers.length c1_)] 24), (1, .blk g3 [(.int .i64 p1.Epoch), (.slice A2_ p1.Holders.length c2_)] 27), (2, .blk g5 [(.int .i64 p3.Kind), (.int .i64 p3.From), (.int .i64 p3.To), (.int .i64 p3.Seq), (.int .i64 p3.Batch), (.int .i64 p3.Layer), (.int .i64 p3.Token), (.int .i64 p3.Rank), (.int .i64 p3.Expert), (.int .i64 p3.Epoch), (.slice A3_ p3.Vec.length c3_)] 109)] _ := ⟨_, _, (le12.trans (le18.trans le24)), hO, ⟨rfl, rfl, rfl, trivial⟩⟩
     refine nil ⟨fun _ => hS, ?_⟩
     refine WA.takeN (i := 47) rfl rfl (kb rfl hb34) rfl (by kernel_rfl) hS ?_
     refine take (i := 48) rfl (by kernel_rfl) (fun w hS => x_pick_f (kb rfl hb34) (.bool false) rfl) hS ?_
     refine take (i := 49) rfl (by kernel_rfl) (fun w hS => x_assign (.bool false) rfl) hS ?_
     refine WA.done (by kernel_rfl) ?_
     refine W.ret ?_
     obtain rfl := sj hm0
     exact ⟨H22, rfl, hO.done⟩
   ·refine WA.takeN (i := 36) rfl rfl (kb rfl hb25) rfl (by kernel_rfl) hS ?_
    refine WA.takeN (i := 37) rfl rfl (kb rfl hb25) rfl (by kernel_rfl) hS ?_
    refine WA.takeN (i := 38) rfl rfl (kb rfl hb25) rfl (by kernel_rfl) hS ?_
    refine WA.takeN (i := 39) rfl rfl (kb rfl hb25) rfl (by kernel_rfl) hS ?_
    refine WA.takeN (i := 40) rfl rfl (kb rfl hb25) rfl (by kernel_rfl) hS ?_
    refine take (i := 41) rfl (by kernel_rfl) (fun w hS => x_pick_f (kb rfl hb25) (.bool false) rfl) hS ?_
    refine take (i := 42) rfl (by kernel_rfl) (fun w hS => x_move (.bool false) rfl) hS ?_
    refine WA.takeN (i := 43) rfl rfl rfl rfl (by kernel_rfl) hS ?_
    refine WA.takeN (i := 44) rfl rfl rfl rfl (by kernel_rfl) hS ?_
    refine WA.takeN (i := 45) rfl rfl rfl rfl (by kernel_rfl) hS ?_
    refine WA.only (i := 46) (by kernel_rfl) rfl ?_
    refine no rfl rfl rfl ?_
    have hS : SD w0 H0 [] H0 [(0, .blk g1 [(.int .i64 p0.Dim), (.slice A1_ p0.Layers.length c1_)] 24), (1, .blk g3 [(.int .i64 p1.Epoch), (.slice A2_ p1.Holders.length c2_)] 27), (2, .blk g5 [(.int .i64 p3.Kind), (.int .i64 p3.From), (.int .i64 p3.To), (.int .i64 p3.Seq), (.int .i64 p3.Batch), (.int .i64 p3.Layer), (.int .i64 p3.Token), (.int .i64 p3.Rank), (.int .i64 p3.Expert), (.int .i64 p3.Epoch), (.slice A3_ p3.Vec.length c3_)] 109)] _ := ⟨_, _, (le12.trans (le18.trans le24)), hO, ⟨rfl, rfl, rfl, trivial⟩⟩
    refine nil ⟨fun _ => hS, ?_⟩
    refine WA.takeN (i := 47) rfl rfl rfl rfl (by kernel_rfl) hS ?_
    refine take (i := 48) rfl (by kernel_rfl) (fun w hS => x_pick_f rfl (.bool false) rfl) hS ?_
    refine take (i := 49) rfl (by kernel_rfl) (fun w hS => x_assign (.bool false) rfl) hS ?_
    refine WA.done (by kernel_rfl) ?_
    refine W.ret ?_
    obtain rfl := sj hm0
    exact ⟨H22, rfl, hO.done⟩
  ·refine no rfl (kb rfl hb19) rfl ?_
   have hS : SD w0 H0 [] H0 [(0, .blk g1 [(.int .i64 p0.Dim), (.slice A1_ p0.Layers.length c1_)] 24), (1, .blk g3 [(.int .i64 p1.Epoch), (.slice A2_ p1.Holders.length c2_)] 27), (2, .blk g5 [(.int .i64 p3.Kind), (.int .i64 p3.From), (.int .i64 p3.To), (.int .i64 p3.Seq), (.int .i64 p3.Batch), (.int .i64 p3.Layer), (.int .i64 p3.Token), (.int .i64 p3.Rank), (.int .i64 p3.Expert), (.int .i64 p3.Epoch), (.slice A3_ p3.Vec.length c3_)] 109)] _ := ⟨_, _, (le12.trans le18), hO, ⟨rfl, rfl, rfl, trivial⟩⟩
   refine nil ⟨fun _ => hS, ?_⟩
   refine take (i := 9) rfl (by kernel_rfl) (fun w hS => x_pick_f (kb rfl hb19) (.bool false) rfl) hS ?_
   refine take (i := 10) rfl (by kernel_rfl) (fun w hS => x_move (.bool false) rfl) hS ?_
   refine WA.takeN (i := 11) rfl rfl rfl rfl (by kernel_rfl) hS ?_
   refine WA.takeN (i := 12) rfl rfl rfl rfl (by kernel_rfl) hS ?_
   refine WA.takeN (i := 13) rfl rfl rfl rfl (by kernel_rfl) hS ?_
   refine take (i := 14) rfl (by kernel_rfl) (fun w hS => x_pick_f rfl (.bool false) rfl) hS ?_
   refine take (i := 15) rfl (by kernel_rfl) (fun w hS => x_move (.bool false) rfl) hS ?_
   refine WA.takeN (i := 16) rfl rfl rfl rfl (by kernel_rfl) hS ?_
   refine WA.takeN (i := 17) rfl rfl rfl rfl (by kernel_rfl) hS ?_
   refine WA.takeN (i := 18) rfl rfl rfl rfl (by kernel_rfl) hS ?_
   refine WA.takeN (i := 19) rfl rfl rfl rfl (by kernel_rfl) hS ?_
   refine take (i := 20) rfl (by kernel_rfl) (fun w hS => x_pick_f rfl (.bool false) rfl) hS ?_
   refine take (i := 21) rfl (by kernel_rfl) (fun w hS => x_move (.bool false) rfl) hS ?_
   refine WA.takeN (i := 22) rfl rfl rfl rfl (by kernel_rfl) hS ?_
   refine WA.takeN (i := 23) rfl rfl rfl rfl (by kernel_rfl) hS ?_
   refine WA.takeN (i := 24) rfl rfl rfl rfl (by kernel_rfl) hS ?_
   refine WA.takeN (i := 25) rfl rfl rfl rfl (by kernel_rfl) hS ?_
   refine WA.takeN (i := 26) rfl rfl rfl rfl (by kernel_rfl) hS ?_
   refine WA.takeN (i := 27) rfl rfl rfl rfl (by kernel_rfl) hS ?_
   refine take (i := 28) rfl (by kernel_rfl) (fun w hS => x_pick_f rfl (.bool false) rfl) hS ?_
   refine take (i := 29) rfl (by kernel_rfl) (fun w hS => x_move (.bool false) rfl) hS ?_
   refine WA.takeN (i := 30) rfl rfl rfl rfl (by kernel_rfl) hS ?_
   refine WA.takeN (i := 31) rfl rfl rfl rfl (by kernel_rfl) hS ?_
   refine WA.takeN (i := 32) rfl rfl rfl rfl (by kernel_rfl) hS ?_
   refine WA.takeN (i := 33) rfl rfl rfl rfl (by kernel_rfl) hS ?_
   refine WA.takeN (i := 34) rfl rfl rfl rfl (by kernel_rfl) hS ?_
   refine WA.takeN (i := 35) rfl rfl rfl rfl (by kernel_rfl) hS ?_
   refine WA.takeN (i := 36) rfl rfl rfl rfl (by kernel_rfl) hS ?_
   refine WA.takeN (i := 37) rfl rfl rfl rfl (by kernel_rfl) hS ?_
   refine WA.takeN (i := 38) rfl rfl rfl rfl (by kernel_rfl) hS ?_
   refine WA.takeN (i := 39) rfl rfl rfl rfl (by kernel_rfl) hS ?_
   refine WA.takeN (i := 40) rfl rfl rfl rfl (by kernel_rfl) hS ?_
   refine take (i := 41) rfl (by kernel_rfl) (fun w hS => x_pick_f rfl (.bool false) rfl) hS ?_
   refine take (i := 42) rfl (by kernel_rfl) (fun w hS => x_move (.bool false) rfl) hS ?_
   refine WA.takeN (i := 43) rfl rfl rfl rfl (by kernel_rfl) hS ?_
   refine WA.takeN (i := 44) rfl rfl rfl rfl (by kernel_rfl) hS ?_
   refine WA.takeN (i := 45) rfl rfl rfl rfl (by kernel_rfl) hS ?_
   refine WA.only (i := 46) (by kernel_rfl) rfl ?_
   refine no rfl rfl rfl ?_
   have hS : SD w0 H0 [] H0 [(0, .blk g1 [(.int .i64 p0.Dim), (.slice A1_ p0.Layers.length c1_)] 24), (1, .blk g3 [(.int .i64 p1.Epoch), (.slice A2_ p1.Holders.length c2_)] 27), (2, .blk g5 [(.int .i64 p3.Kind), (.int .i64 p3.From), (.int .i64 p3.To), (.int .i64 p3.Seq), (.int .i64 p3.Batch), (.int .i64 p3.Layer), (.int .i64 p3.Token), (.int .i64 p3.Rank), (.int .i64 p3.Expert), (.int .i64 p3.Epoch), (.slice A3_ p3.Vec.length c3_)] 109)] _ := ⟨_, _, (le12.trans le18), hO, ⟨rfl, rfl, rfl, trivial⟩⟩
   refine nil ⟨fun _ => hS, ?_⟩
   refine WA.takeN (i := 47) rfl rfl rfl rfl (by kernel_rfl) hS ?_
   refine take (i := 48) rfl (by kernel_rfl) (fun w hS => x_pick_f rfl (.bool false) rfl) hS ?_
   refine take (i := 49) rfl (by kernel_rfl) (fun w hS => x_assign (.bool false) rfl) hS ?_
   refine WA.done (by kernel_rfl) ?_
   refine W.ret ?_
   obtain rfl := sj hm0
   exact ⟨H16, rfl, hO.done⟩
 ·refine no rfl (kb rfl hb13) rfl ?_
  have hS : SD w0 H0 [] H0 [(0, .blk g1 [(.int .i64 p0.Dim), (.slice A1_ p0.Layers.length c1_)] 24), (1, .blk g3 [(.int .i64 p1.Epoch), (.slice A2_ p1.Holders.length c2_)] 27), (2, .blk g5 [(.int .i64 p3.Kind), (.int .i64 p3.From), (.int .i64 p3.To), (.int .i64 p3.Seq), (.int .i64 p3.Batch), (.int .i64 p3.Layer), (.int .i64 p3.Token), (.int .i64 p3.Rank), (.int .i64 p3.Expert), (.int .i64 p3.Epoch), (.slice A3_ p3.Vec.length c3_)] 109)] _ := ⟨_, _, le12, hO, ⟨rfl, rfl, rfl, trivial⟩⟩
  refine nil ⟨fun _ => hS, ?_⟩
  refine take (i := 5) rfl (by kernel_rfl) (fun w hS => x_pick_f (kb rfl hb13) (.bool false) rfl) hS ?_
  refine take (i := 6) rfl (by kernel_rfl) (fun w hS => x_move (.bool false) rfl) hS ?_
  refine WA.takeN (i := 7) rfl rfl rfl rfl (by kernel_rfl) hS ?_
  refine WA.takeN (i := 8) rfl rfl rfl rfl (by kernel_rfl) hS ?_
  refine take (i := 9) rfl (by kernel_rfl) (fun w hS => x_pick_f rfl (.bool false) rfl) hS ?_
  refine take (i := 10) rfl (by kernel_rfl) (fun w hS => x_move (.bool false) rfl) hS ?_
  refine WA.takeN (i := 11) rfl rfl rfl rfl (by kernel_rfl) hS ?_
  refine WA.takeN (i := 12) rfl rfl rfl rfl (by kernel_rfl) hS ?_
  refine WA.takeN (i := 13) rfl rfl rfl rfl (by kernel_rfl) hS ?_
  refine take (i := 14) rfl (by kernel_rfl) (fun w hS => x_pick_f rfl (.bool false) rfl) hS ?_
  refine take (i := 15) rfl (by kernel_rfl) (fun w hS => x_move (.bool false) rfl) hS ?_
  refine WA.takeN (i := 16) rfl rfl rfl rfl (by kernel_rfl) hS ?_
  refine WA.takeN (i := 17) rfl rfl rfl rfl (by kernel_rfl) hS ?_
  refine WA.takeN (i := 18) rfl rfl rfl rfl (by kernel_rfl) hS ?_
  refine WA.takeN (i := 19) rfl rfl rfl rfl (by kernel_rfl) hS ?_
  refine take (i := 20) rfl (by kernel_rfl) (fun w hS => x_pick_f rfl (.bool false) rfl) hS ?_
  refine take (i := 21) rfl (by kernel_rfl) (fun w hS => x_move (.bool false) rfl) hS ?_
  refine WA.takeN (i := 22) rfl rfl rfl rfl (by kernel_rfl) hS ?_
  refine WA.takeN (i := 23) rfl rfl rfl rfl (by kernel_rfl) hS ?_
  refine WA.takeN (i := 24) rfl rfl rfl rfl (by kernel_rfl) hS ?_
  refine WA.takeN (i := 25) rfl rfl rfl rfl (by kernel_rfl) hS ?_
  refine WA.takeN (i := 26) rfl rfl rfl rfl (by kernel_rfl) hS ?_
  refine WA.takeN (i := 27) rfl rfl rfl rfl (by kernel_rfl) hS ?_
  refine take (i := 28) rfl (by kernel_rfl) (fun w hS => x_pick_f rfl (.bool false) rfl) hS ?_
  refine take (i := 29) rfl (by kernel_rfl) (fun w hS => x_move (.bool false) rfl) hS ?_
  refine WA.takeN (i := 30) rfl rfl rfl rfl (by kernel_rfl) hS ?_
  refine WA.takeN (i := 31) rfl rfl rfl rfl (by kernel_rfl) hS ?_
  refine WA.takeN (i := 32) rfl rfl rfl rfl (by kernel_rfl) hS ?_
  refine WA.takeN (i := 33) rfl rfl rfl rfl (by kernel_rfl) hS ?_
  refine WA.takeN (i := 34) rfl rfl rfl rfl (by kernel_rfl) hS ?_
  refine WA.takeN (i := 35) rfl rfl rfl rfl (by kernel_rfl) hS ?_
  refine WA.takeN (i := 36) rfl rfl rfl rfl (by kernel_rfl) hS ?_
  refine WA.takeN (i := 37) rfl rfl rfl rfl (by kernel_rfl) hS ?_
  refine WA.takeN (i := 38) rfl rfl rfl rfl (by kernel_rfl) hS ?_
  refine WA.takeN (i := 39) rfl rfl rfl rfl (by kernel_rfl) hS ?_
  refine WA.takeN (i := 40) rfl rfl rfl rfl (by kernel_rfl) hS ?_
  refine take (i := 41) rfl (by kernel_rfl) (fun w hS => x_pick_f rfl (.bool false) rfl) hS ?_
  refine take (i := 42) rfl (by kernel_rfl) (fun w hS => x_move (.bool false) rfl) hS ?_
  refine WA.takeN (i := 43) rfl rfl rfl rfl (by kernel_rfl) hS ?_
  refine WA.takeN (i := 44) rfl rfl rfl rfl (by kernel_rfl) hS ?_
  refine WA.takeN (i := 45) rfl rfl rfl rfl (by kernel_rfl) hS ?_
  refine WA.only (i := 46) (by kernel_rfl) rfl ?_
  refine no rfl rfl rfl ?_
  have hS : SD w0 H0 [] H0 [(0, .blk g1 [(.int .i64 p0.Dim), (.slice A1_ p0.Layers.length c1_)] 24), (1, .blk g3 [(.int .i64 p1.Epoch), (.slice A2_ p1.Holders.length c2_)] 27), (2, .blk g5 [(.int .i64 p3.Kind), (.int .i64 p3.From), (.int .i64 p3.To), (.int .i64 p3.Seq), (.int .i64 p3.Batch), (.int .i64 p3.Layer), (.int .i64 p3.Token), (.int .i64 p3.Rank), (.int .i64 p3.Expert), (.int .i64 p3.Epoch), (.slice A3_ p3.Vec.length c3_)] 109)] _ := ⟨_, _, le12, hO, ⟨rfl, rfl, rfl, trivial⟩⟩
  refine nil ⟨fun _ => hS, ?_⟩
  refine WA.takeN (i := 47) rfl rfl rfl rfl (by kernel_rfl) hS ?_
  refine take (i := 48) rfl (by kernel_rfl) (fun w hS => x_pick_f rfl (.bool false) rfl) hS ?_
  refine take (i := 49) rfl (by kernel_rfl) (fun w hS => x_assign (.bool false) rfl) hS ?_
  refine WA.done (by kernel_rfl) ?_
  refine W.ret ?_
  obtain rfl := sj hm0
  exact ⟨H10, rfl, hO.done⟩
end Go.Sw

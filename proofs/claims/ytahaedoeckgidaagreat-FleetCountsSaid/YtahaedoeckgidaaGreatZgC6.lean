/- The calls compute the mirrors. -/
import Derived.Test.YtahaedoeckgidaaGreatZgF
import Derived.Test.YtahaedoeckgidaaGreatZgC3
import Derived.Test.YtahaedoeckgidaaGreatZgC4
import Derived.Test.YtahaedoeckgidaaGreatZgC5
set_option linter.unusedVariables false
set_option maxRecDepth 100000
namespace Go.Sw
open WL (val nil gval yes no)
open W (region test seq skip)
open WA (take)
open Go.Proofs.Tryz
open Go.Proofs
theorem fleet_Fleet_begin_ok {w0 : World} {H0 : IHeap} {p0 : FleetFleet}  {g1_ : Nat} {cs2_ : List Value} {A4_ : Option Addr} {c5_ : Nat} {cs6_ : List Value} {A8_ : Option Addr} {c9_ : Nat} {cs10_ : List Value} {M : List Nat} (hO : St w0 H0 M H0 (ol [(0, .blk g1_ cs2_ 93), (1, .row A4_ c5_ 61 (eSl (eInt .i64)).size p0.answers.length cs6_), (2, .row A8_ c9_ 4 eBool.size p0.answered.length cs10_)]) w0) (h3_ : Enc.rep (eFleetFleet (.slice A4_ p0.answers.length c5_) (.slice A8_ p0.answered.length c9_)) H0 cs2_ p0) (h7_ : Rows (eSl (eInt .i64)) H0 cs6_ p0.answers) (h11_ : Rows eBool H0 cs10_ p0.answered) {res : FleetFleet} (hm0 : fleet_Fleet_begin p0 = some res) :
  OkM prog 40 [(.pointer (some ⟨g1_, 0, none⟩))].toArray w0 H0 M (fun H' O' v => ∃ (cs1 : List Value) (A1_0 : Option Addr) (c1_0 : Nat) (cs1_0 : List Value) (A1_1 : Option Addr) (c1_1 : Nat) (cs1_1 : List Value), v = (.tuple #[]) ∧ Enc.rep (eFleetFleet (.slice A1_0 res.answers.length c1_0) (.slice A1_1 res.answered.length c1_1)) H' cs1 res ∧ Rows (eSl (eInt .i64)) H' cs1_0 res.answers ∧ Rows eBool H' cs1_1 res.answered ∧ O' 0 = some (.blk g1_ cs1 93) ∧ O' 1 = some (.row A1_0 c1_0 61 (eSl (eInt .i64)).size res.answers.length cs1_0) ∧ O' 2 = some (.row A1_1 c1_1 4 eBool.size res.answered.length cs1_1)) := by
 unfold fleet_Fleet_begin at hm0
 refine (okM_of_W Tryz.func40 rfl Tryz.ntmps40 (rs := []) rfl rfl ?_)
 refine seq (seq ?_)
 have hO := hO.pick [(0, .blk g1_ cs2_ 93), (1, .row A4_ c5_ 61 (eSl (eInt .i64)).size p0.answers.length cs6_), (2, .row A8_ c9_ 4 eBool.size p0.answered.length cs10_)] ⟨rfl, rfl, rfl, trivial⟩
 refine W.draw (SD w0 H0 M H0 [(0, .blk g1_ cs2_ 93)]) (fun i => ([] : List Nat).contains i) mixed 11 rfl _ rfl ?_
 intro w1 hh1 hh2 hh3 hh4; have hO := hO.same hh1 hh2 hh3 hh4; clear hh1 hh2 hh3 hh4
 have hS : SD w0 H0 M H0 [(0, .blk g1_ cs2_ 93)] w1 := ⟨_, _, Le.refl _, hO, ⟨rfl, trivial⟩⟩
 refine take (i := 0) rfl (by kernel_rfl) (fun w hS => x_move (.pointer (some ⟨g1_, 0, none⟩)) rfl) hS ?_
 refine take (i := 1) rfl (by kernel_rfl) (fun w hS => x_nilCheck rfl) hS ?_
 refine take (i := 2) rfl (by kernel_rfl) (fun w hS => x_fa rfl fo93_5) hS ?_
 obtain ⟨cs2, hr3, hc4⟩ := lFleetFleet_at_.part _ _ _ h3_
 obtain rfl := hr3
 refine take (i := 3) rfl (by kernel_rfl) (fun w hS => x_ldD 0 (.int .i64 p0.at_) hS rfl rfl (hc4 0 _ rfl) one3) hS ?_
 refine take (i := 4) rfl (by kernel_rfl) (fun w hS => x_move (.pointer (some ⟨g1_, 0, none⟩)) rfl) hS ?_
 refine take (i := 5) rfl (by kernel_rfl) (fun w hS => x_nilCheck rfl) hS ?_
 refine take (i := 6) rfl (by kernel_rfl) (fun w hS => x_fa rfl fo93_0) hS ?_
 refine take (i := 7) rfl (by kernel_rfl) (fun w hS => x_fa rfl fo24_1) hS ?_
 obtain ⟨cs5, hr6, hc7⟩ := (Part.comp lFleetFleet_m.part pApiModel_Layers) _ _ _ h3_
 obtain ⟨A8, c9, rfl, h10⟩ := hr6
 refine take (i := 8) rfl (by kernel_rfl) (fun w hS => x_ldD 0 (.slice A8 p0.m.Layers.length c9) hS rfl rfl (hc7 0 _ rfl) one22) hS ?_
 refine take (i := 9) rfl (by kernel_rfl) (fun w hS => x_len rfl underlying22) hS ?_
 refine take (i := 10) rfl (by kernel_rfl) (fun w hS => x_geq rfl rfl) hS ?_
 refine WA.done (by kernel_rfl) ?_
 refine test rfl hm0 ?_ ?_
 ·intro hb11 hm0
  refine W.ret ?_
  obtain rfl := sj hm0
  exact ⟨[], trivial, H0, _, ⟨cs2_, A4_, c5_, cs6_, A8_, c9_, cs10_, rfl, h3_, h7_, h11_, rfl, rfl, rfl⟩, hO.relabel [(0, .blk g1_ cs2_ 93), (1, .row A4_ c5_ 61 (eSl (eInt .i64)).size p0.answers.length cs6_), (2, .row A8_ c9_ 4 eBool.size p0.answered.length cs10_)] ⟨rfl, rfl, rfl, trivial⟩ (names_nd (ns := [0, 1, 2]) rfl (by decide))⟩
 ·intro hb11 hm0
  refine skip (seq ?_)
  have hO := hO.pick [(0, .blk g1_ cs2_ 93), (1, .row A4_ c5_ 61 (eSl (eInt .i64)).size p0.answers.length cs6_), (2, .row A8_ c9_ 4 eBool.size p0.answered.length cs10_)] ⟨rfl, rfl, rfl, trivial⟩
  refine W.draw (SD w0 H0 M H0 [(0, .blk g1_ cs2_ 93)]) (fun i => ([19] : List Nat).contains i) mixed 20 rfl _ rfl ?_
  intro w12 hh1 hh2 hh3 hh4; have hO := hO.same hh1 hh2 hh3 hh4; clear hh1 hh2 hh3 hh4
  have hS : SD w0 H0 M H0 [(0, .blk g1_ cs2_ 93)] w12 := ⟨_, _, Le.refl _, hO, ⟨rfl, trivial⟩⟩
  refine take (i := 0) rfl (by kernel_rfl) (fun w hS => x_move (.pointer (some ⟨g1_, 0, none⟩)) rfl) hS ?_
  refine take (i := 1) rfl (by kernel_rfl) (fun w hS => x_move (.pointer (some ⟨g1_, 0, none⟩)) rfl) hS ?_
  refine take (i := 2) rfl (by kernel_rfl) (fun w hS => x_nilCheck rfl) hS ?_
  refine take (i := 3) rfl (by kernel_rfl) (fun w hS => x_fa rfl fo93_0) hS ?_
  refine take (i := 4) rfl (by kernel_rfl) (fun w hS => x_fa rfl fo24_1) hS ?_
  obtain ⟨cs13, hr14, hc15⟩ := (Part.comp lFleetFleet_m.part pApiModel_Layers) _ _ _ h3_
  obtain ⟨A16, c17, rfl, h18⟩ := hr14
  refine take (i := 5) rfl (by kernel_rfl) (fun w hS => x_ldD 0 (.slice A16 p0.m.Layers.length c17) hS rfl rfl (hc15 0 _ rfl) one22) hS ?_
  refine take (i := 6) rfl (by kernel_rfl) (fun w hS => x_move (.pointer (some ⟨g1_, 0, none⟩)) rfl) hS ?_
  refine take (i := 7) rfl (by kernel_rfl) (fun w hS => x_nilCheck rfl) hS ?_
  refine take (i := 8) rfl (by kernel_rfl) (fun w hS => x_fa rfl fo93_5) hS ?_
  obtain ⟨cs19, hr20, hc21⟩ := lFleetFleet_at_.part _ _ _ h3_
  obtain rfl := hr20
  refine take (i := 9) rfl (by kernel_rfl) (fun w hS => x_ldD 0 (.int .i64 p0.at_) hS rfl rfl (hc21 0 _ rfl) one3) hS ?_
  obtain ⟨hin25, hm0⟩ := chk hm0
  obtain ⟨a22, h23, hA24⟩ := RS.at_ h18 hin25
  refine take (i := 10) rfl (by kernel_rfl) (fun w hS => x_ia (sA rfl hA24) rfl sle22 hin25) hS ?_
  obtain ⟨cs26, hr27, hc28⟩ := At.agg h23
  obtain ⟨A29, c30, A32, c33, rfl, h31, h34⟩ := hr27
  refine take (i := 11) rfl (by kernel_rfl) (fun w hS => x_ldv rfl (hc28 _ _ _ hS.sub agg41)) hS ?_
  refine take (i := 12) rfl (by kernel_rfl) (fun w hS => x_move (.pointer (some ⟨g1_, 0, none⟩)) rfl) hS ?_
  refine take (i := 13) rfl (by kernel_rfl) (fun w hS => x_nilCheck rfl) hS ?_
  refine take (i := 14) rfl (by kernel_rfl) (fun w hS => x_fa rfl fo93_4) hS ?_
  obtain ⟨cs35, hr36, hc37⟩ := lFleetFleet_tokens.part _ _ _ h3_
  obtain ⟨A38, c39, rfl, h40⟩ := hr36
  refine take (i := 15) rfl (by kernel_rfl) (fun w hS => x_ldD 0 (.slice A38 p0.tokens.length c39) hS rfl rfl (hc37 0 _ rfl) one25) hS ?_
  refine WA.only (i := 16) (by kernel_rfl) rfl ?_
  obtain ⟨t41, ht42, hm0⟩ := bindSome hm0
  refine o_call hO go81 (model_Parts_ok hO.sub h31 h34 h40 ht42) rfl ?_
  rintro _ H43 w44 le45 ⟨A46, c47, rfl, h48⟩ hO
  have hS : SD w0 H0 M H0 [(0, .blk g1_ cs2_ 93)] _ := ⟨_, _, le45, hO, ⟨rfl, trivial⟩⟩
  refine nil ⟨fun _ => hS, ?_⟩
  refine take (i := 17) rfl (by kernel_rfl) (fun w hS => x_nilCheck rfl) hS ?_
  refine take (i := 18) rfl (by kernel_rfl) (fun w hS => x_fa rfl fo93_6) hS ?_
  refine WA.only (i := 19) (by kernel_rfl) rfl ?_
  refine o_stP 0 (.slice A46 t41.length c47) hO rfl (Enc.mono _ le45 h3_) lFleetFleet_parts rfl rfl rfl ⟨A46, c47, rfl, h48⟩ siz90 ?_
  intro cs49 w50 (hr51 : Enc.rep (eFleetFleet (.slice A4_ p0.answers.length c5_) (.slice A8_ p0.answered.length c9_)) H43 cs49 ({ p0 with parts := t41 } : FleetFleet)) hO
  refine nil ⟨fun h => absurd h (by decide), ?_⟩
  refine WA.done (by kernel_rfl) ?_
  refine seq (region (val (x_move (.pointer (some ⟨g1_, 0, none⟩)) rfl) ?_))
  refine val (x_move (.pointer (some ⟨g1_, 0, none⟩)) rfl) ?_
  refine val (x_nilCheck rfl) ?_
  refine val (x_fa rfl fo93_6) ?_
  obtain ⟨cs52, hr53, hc54⟩ := lFleetFleet_parts.part _ _ _ hr51
  obtain ⟨A55, c56, rfl, h57⟩ := hr53
  refine val (x_ld 0 (.slice A55 (({ p0 with parts := t41 } : FleetFleet).parts).length c56) hO rfl rfl (hc54 0 _ rfl) one90) ?_
  refine val (x_len rfl underlying90) ?_
  refine o_make (en := (eSl (eInt .i64))) (kx := .i64) (m := ((({ p0 with parts := t41 } : FleetFleet).parts).length : Int)) 3 ([] : List Int) hO sli25 ⟨none, 0, rfl, RS.nil0 _ _⟩ rfl rfl rfl hm0 ?_
  intro g58 cs59 w60 hr61 hO hm0
  refine val (x_nilCheck rfl) ?_
  refine val (x_fa rfl fo93_7) ?_
  refine o_stRaw (e' := (eFleetFleet (.slice (some ⟨g58, 0, none⟩) (List.replicate (Int.toNat ((({ p0 with parts := t41 } : FleetFleet).parts).length : Int)) ([] : List Int)).length (Int.toNat ((({ p0 with parts := t41 } : FleetFleet).parts).length : Int))) (.slice A8_ p0.answered.length c9_))) 0 (.slice A4_ p0.answers.length c5_) (.slice (some ⟨g58, 0, none⟩) (List.replicate (Int.toNat ((({ p0 with parts := t41 } : FleetFleet).parts).length : Int)) ([] : List Int)).length (Int.toNat ((({ p0 with parts := t41 } : FleetFleet).parts).length : Int))) hO rfl hr51 sFleetFleet_answers rfl rfl rfl siz25 ?_
  intro cs62 w63 hr64 hO
  refine nil (seq (region (val (x_move (.pointer (some ⟨g1_, 0, none⟩)) rfl) ?_)))
  refine val (x_move (.pointer (some ⟨g1_, 0, none⟩)) rfl) ?_
  refine val (x_nilCheck rfl) ?_
  refine val (x_fa rfl fo93_6) ?_
  obtain ⟨cs65, hr66, hc67⟩ := lFleetFleet_parts.part _ _ _ (uFleetFleet_answers (y := (List.replicate (Int.toNat ((({ p0 with parts := t41 } : FleetFleet).parts).length : Int)) ([] : List Int))) hr64)
  obtain ⟨A68, c69, rfl, h70⟩ := hr66
  refine val (x_ld 0 (.slice A68 (({ ({ p0 with parts := t41 } : FleetFleet) with answers := (List.replicate (Int.toNat ((({ p0 with parts := t41 } : FleetFleet).parts).length : Int)) ([] : List Int)) } : FleetFleet).parts).length c69) hO rfl rfl (hc67 0 _ rfl) one90) ?_
  refine val (x_len rfl underlying90) ?_
  refine o_make (en := eBool) (kx := .i64) (m := ((({ ({ p0 with parts := t41 } : FleetFleet) with answers := (List.replicate (Int.toNat ((({ p0 with parts := t41 } : FleetFleet).parts).length : Int)) ([] : List Int)) } : FleetFleet).parts).length : Int)) 4 (false : Bool) hO sli91 rfl rfl rfl rfl hm0 ?_
  intro g71 cs72 w73 hr74 hO hm0
  refine val (x_nilCheck rfl) ?_
  refine val (x_fa rfl fo93_8) ?_
  refine o_stRaw (e' := (eFleetFleet (.slice (some ⟨g58, 0, none⟩) (List.replicate (Int.toNat ((({ p0 with parts := t41 } : FleetFleet).parts).length : Int)) ([] : List Int)).length (Int.toNat ((({ p0 with parts := t41 } : FleetFleet).parts).length : Int))) (.slice (some ⟨g71, 0, none⟩) (List.replicate (Int.toNat ((({ ({ p0 with parts := t41 } : FleetFleet) with answers := (List.replicate (Int.toNat ((({ p0 with parts := t41 } : FleetFleet).parts).length : Int)) ([] : List Int)) } : FleetFleet).parts).length : Int)) (false : Bool)).length (Int.toNat ((({ ({ p0 with parts := t41 } : FleetFleet) with answers := (List.replicate (Int.toNat ((({ p0 with parts := t41 } : FleetFleet).parts).length : Int)) ([] : List Int)) } : FleetFleet).parts).length : Int))))) 0 (.slice A8_ p0.answered.length c9_) (.slice (some ⟨g71, 0, none⟩) (List.replicate (Int.toNat ((({ ({ p0 with parts := t41 } : FleetFleet) with answers := (List.replicate (Int.toNat ((({ p0 with parts := t41 } : FleetFleet).parts).length : Int)) ([] : List Int)) } : FleetFleet).parts).length : Int)) (false : Bool)).length (Int.toNat ((({ ({ p0 with parts := t41 } : FleetFleet) with answers := (List.replicate (Int.toNat ((({ p0 with parts := t41 } : FleetFleet).parts).length : Int)) ([] : List Int)) } : FleetFleet).parts).length : Int))) hO rfl (uFleetFleet_answers (y := (List.replicate (Int.toNat ((({ p0 with parts := t41 } : FleetFleet).parts).length : Int)) ([] : List Int))) hr64) sFleetFleet_answered rfl rfl rfl siz91 ?_
  intro cs75 w76 hr77 hO
  refine nil (region (val (x_move (.pointer (some ⟨g1_, 0, none⟩)) rfl) ?_))
  obtain ⟨t78, ht79, hm0⟩ := bindSome hm0
  refine o_callL (args := [(.pointer (some ⟨g1_, 0, none⟩))]) [(0, .blk g1_ cs75 93), (3, .row (some ⟨g58, 0, none⟩) (Int.toNat ((({ p0 with parts := t41 } : FleetFleet).parts).length : Int)) 61 (eSl (eInt .i64)).size (List.replicate (Int.toNat ((({ p0 with parts := t41 } : FleetFleet).parts).length : Int)) ([] : List Int)).length cs59), (4, .row (some ⟨g71, 0, none⟩) (Int.toNat ((({ ({ p0 with parts := t41 } : FleetFleet) with answers := (List.replicate (Int.toNat ((({ p0 with parts := t41 } : FleetFleet).parts).length : Int)) ([] : List Int)) } : FleetFleet).parts).length : Int)) 4 eBool.size (List.replicate (Int.toNat ((({ ({ p0 with parts := t41 } : FleetFleet) with answers := (List.replicate (Int.toNat ((({ p0 with parts := t41 } : FleetFleet).parts).length : Int)) ([] : List Int)) } : FleetFleet).parts).length : Int)) (false : Bool)).length cs72)] hO ⟨rfl, rfl, rfl, trivial⟩ (names_nd (ns := [0, 3, 4]) rfl (by decide)) go29 (fleet_Fleet_Ask_ok (p0 := ({ ({ ({ p0 with parts := t41 } : FleetFleet) with answers := (List.replicate (Int.toNat ((({ p0 with parts := t41 } : FleetFleet).parts).length : Int)) ([] : List Int)) } : FleetFleet) with answered := (List.replicate (Int.toNat ((({ ({ p0 with parts := t41 } : FleetFleet) with answers := (List.replicate (Int.toNat ((({ p0 with parts := t41 } : FleetFleet).parts).length : Int)) ([] : List Int)) } : FleetFleet).parts).length : Int)) (false : Bool)) } : FleetFleet)) (hO.enterL [(0, .blk g1_ cs75 93), (3, .row (some ⟨g58, 0, none⟩) (Int.toNat ((({ p0 with parts := t41 } : FleetFleet).parts).length : Int)) 61 (eSl (eInt .i64)).size (List.replicate (Int.toNat ((({ p0 with parts := t41 } : FleetFleet).parts).length : Int)) ([] : List Int)).length cs59), (4, .row (some ⟨g71, 0, none⟩) (Int.toNat ((({ ({ p0 with parts := t41 } : FleetFleet) with answers := (List.replicate (Int.toNat ((({ p0 with parts := t41 } : FleetFleet).parts).length : Int)) ([] : List Int)) } : FleetFleet).parts).length : Int)) 4 eBool.size (List.replicate (Int.toNat ((({ ({ p0 with parts := t41 } : FleetFleet) with answers := (List.replicate (Int.toNat ((({ p0 with parts := t41 } : FleetFleet).parts).length : Int)) ([] : List Int)) } : FleetFleet).parts).length : Int)) (false : Bool)).length cs72)] ⟨rfl, rfl, rfl, trivial⟩ (names_nd (ns := [0, 3, 4]) rfl (by decide))) (uFleetFleet_answered (y := (List.replicate (Int.toNat ((({ ({ p0 with parts := t41 } : FleetFleet) with answers := (List.replicate (Int.toNat ((({ p0 with parts := t41 } : FleetFleet).parts).length : Int)) ([] : List Int)) } : FleetFleet).parts).length : Int)) (false : Bool))) hr77) hr61 hr74 ht79) rfl ?_
  rintro _ H80 O83 w81 le82 ⟨cs84, A87, c88, cs89, A92, c93, cs94, rfl, h85, h90, h95, hk86, hk91, hk96⟩ hO
  have hO := hO.named [.blk g1_ cs84 93, .row A87 c88 61 (eSl (eInt .i64)).size t78.answers.length cs89, .row A92 c93 4 eBool.size t78.answered.length cs94] ⟨hk86, hk91, hk96, trivial⟩
  refine nil ?_
  obtain rfl := sj hm0
  exact ⟨[], trivial, H80, _, ⟨cs84, A87, c88, cs89, A92, c93, cs94, rfl, h85, h90, h95, rfl, rfl, rfl⟩, hO.relabel [(0, .blk g1_ cs84 93), (3, .row A87 c88 61 (eSl (eInt .i64)).size t78.answers.length cs89), (4, .row A92 c93 4 eBool.size t78.answered.length cs94)] ⟨rfl, rfl, rfl, trivial⟩ (names_nd (ns := [0, 3, 4]) rfl (by decide))⟩
theorem vec_Add_1_ok {w0 : World} {H0 : IHeap} (hS : Sub H0 w0) {p0 : Int} {p1 : Int} {q_0 : List Int}  {a1_ : Addr} (h1_ : At (eSl (eInt .i64)) H0 a1_ q_0) {res : Int} (hm0 : vec_Add_1 p0 p1 q_0 = some res) :
  Ok prog 154 [(.int .i64 p0), (.int .i64 p1), (.pointer (some a1_))].toArray w0 H0 (fun H' v => v = (.int .i64 res)) := by
 unfold vec_Add_1 at hm0
 refine ok_of_W Tryz.func154 rfl Tryz.ntmps154 (ts := [5]) rfl rfl rfl ?_
 have hO := St.start hS
 refine seq (region (val (x_assign (.int .i64 0) rfl) ?_))
 refine nil (seq (region (val (x_move (.int .i64 p1) rfl) ?_)))
 obtain ⟨A1, c2, h3, hc4⟩ := At.sl h1_
 refine val (x_ldc rfl (hc4 _ hO.sub) one61) ?_
 refine val (x_move (.int .i64 p0) rfl) ?_
 obtain ⟨hin8, hm0⟩ := chk hm0
 obtain ⟨a5, h6, hA7⟩ := RS.at_ h3 hin8
 refine val (x_ia (sA rfl hA7) rfl sle61 hin8) ?_
 refine val (x_ldc rfl (h6.int _ hO.sub) one3) ?_
 obtain ⟨t9, ht10, hm0⟩ := bindSome hm0
 refine o_call hO go155 (fix_Add_ok hO.sub  ht10) rfl ?_
 rintro _ H11 w12 le13 rfl hO
 refine val (x_assign (.int .i64 t9) rfl) ?_
 refine nil (W.ret ?_)
 obtain rfl := sj hm0
 exact ⟨H11, rfl, hO.done⟩
theorem vec_each_vec_Add_1_ok {w0 : World} {H0 : IHeap} (hS : Sub H0 w0) {p0 : List Int} {q1_0 : List Int}  {A1_ : Option Addr} {c1_ : Nat} {a2_ : Addr} (h1_ : RS (eInt .i64) H0 A1_ c1_ p0) (h2_ : At (eSl (eInt .i64)) H0 a2_ q1_0) {res : (List Int)} (hm0 : vec_each_vec_Add_1 p0 q1_0 = some res) :
  Ok prog 153 [(.slice A1_ p0.length c1_), (.func (.func 154) #[] #[(.pointer (some a2_))])].toArray w0 H0 (fun H' v => ∃ (A1 : Option Addr) (c1 : Nat), v = (.slice A1 res.length c1) ∧ RS (eInt .i64) H' A1 c1 res) := by
 unfold vec_each_vec_Add_1 at hm0
 refine ok_of_W Tryz.func153 rfl Tryz.ntmps153 (ts := [4]) rfl rfl rfl ?_
 have hO := St.start hS
 refine seq (region (val (x_assign (.slice none 0 0) rfl) ?_))
 refine nil (seq (region (val (x_assign (.slice none 0 0) rfl) ?_)))
 refine nil (seq (seq (region (val (x_move (.slice A1_ p0.length c1_) rfl) ?_))))
 refine val (x_len rfl underlying61) ?_
 refine val (x_move (.int .i64 0) rfl) ?_
 refine nil ?_
 have hO := hO.nilRowT (α := Int) 0 none 3 (eInt .i64)
 obtain ⟨o1, hm1, hm0⟩ := bindSome hm0
 have hO := hO.pick [(0, .row none 0 3 (eInt .i64).size ([] : List Int).length [])] ⟨rfl, trivial⟩
 refine W.blockLoop (fun r w => ∃ (v7 : List Int) (A8 : Option Addr) (c9 : Nat) (cs10 : List Value) (i4 : Nat) (H2 : IHeap), v7 = o1 ∧ Le H0 H2 ∧ St w0 H0 [] H2 (ol [(0, .row A8 c9 3 (eInt .i64).size v7.length cs10)]) w ∧ r 5 = (.slice A8 v7.length c9) ∧ Rows (eInt .i64) H2 cs10 v7) (fun k r w => ∃ (i4 : Nat) (rest5 : List Int) (v7 : List Int) (A8 : Option Addr) (c9 : Nat) (cs10 : List Value) (H2 : IHeap), k = rest5.length ∧ List.drop i4 p0 = rest5 ∧ vec_each_vec_Add_1_l1 q1_0 rest5 i4 v7 = some o1 ∧ Le H0 H2 ∧ St w0 H0 [] H2 (ol [(0, .row A8 c9 3 (eInt .i64).size v7.length cs10)]) w ∧ r 1 = (.func (.func 154) #[] #[(.pointer (some a2_))]) ∧ r 5 = (.slice A8 v7.length c9) ∧ r 8 = (.slice A1_ p0.length c1_) ∧ r 9 = (.int .i64 (p0.length : Int)) ∧ r 10 = (.int .i64 (i4 : Int)) ∧ Rows (eInt .i64) H2 cs10 v7) (List.length p0) ?_ ?_ ?_
 ·exact ⟨0, _, ([] : List Int), none, 0, [], _, rfl, rfl, hm1, Le.refl _, hO, rfl, rfl, rfl, rfl, rfl, Rows.nil⟩
 ·
  intro k r w
  rintro ⟨i4, rest5, v7, A8, c9, cs10, H2, rfl, hd12, hm1, le3, hO, f1_1, f5_1, f8_1, f9_1, f10_1, h11⟩
  cases rest5 with
  | nil =>
   rw [vec_each_vec_Add_1_l1] at hm1
   have hlt := drop_nil hd12
   refine seq (region (val (x_lss f10_1 f9_1) ?_))
   refine nil (seq (W.cond_f (kb rfl hlt) ?_))
   refine W.exit _ rfl ?_
   obtain rfl := sj hm1
   exact ⟨v7, A8, c9, cs10, i4, H2, rfl, le3, hO.pick _ ⟨rfl, trivial⟩, f5_1, h11⟩
  | cons x6 rest5 =>
   rw [vec_each_vec_Add_1_l1] at hm1
   have hlt := drop_lt hd12
   have hnx := drop_next hd12
   have hinc := inc_len hlt h1_.1 h1_.2.1
   refine seq (region (val (x_lss f10_1 f9_1) ?_))
   refine nil (seq (W.cond_t (kb rfl hlt) ?_))
   refine skip (seq (W.block ?_))
   refine seq (region (val (x_move (.int .i64 (i4 : Int)) f10_1) ?_))
   obtain ⟨a13, h14, hA15, hin⟩ := RS.atR (h1_.up le3) hd12
   refine val (x_ia (sA f8_1 hA15) f10_1 sle61 hin) ?_
   refine val (x_ldc rfl (h14.int _ hO.sub) one3) ?_
   refine val (x_assign (.int .i64 (i4 : Int)) rfl) ?_
   refine val (x_assign (.int .i64 x6) rfl) ?_
   refine nil (region (val (x_move (.slice A8 v7.length c9) f5_1) ?_))
   refine val (x_move (.func (.func 154) #[] #[(.pointer (some a2_))]) f1_1) ?_
   refine val (x_move (.int .i64 (i4 : Int)) rfl) ?_
   refine val (x_move (.int .i64 x6) rfl) ?_
   obtain ⟨t16, ht17, hm1⟩ := bindSome hm1
   refine o_callv (args := [(.int .i64 (i4 : Int)), (.int .i64 x6)]) (caps := [(.pointer (some a2_))]) hO rfl go154 (vec_Add_1_ok hO.sub (h2_.up le3) ht17) rfl ?_
   rintro _ H18 w19 le20 rfl hO
   refine o_litT (en := (eInt .i64)) 1 [(.int .i64 t16)] ([t16] : List Int) hO sli61 ⟨rfl, trivial⟩ rfl rfl rfl ?_
   intro g21 cs22 w23 hr24 hO
   refine o_appT (en := (eInt .i64)) (xs := v7) (ys := ([t16] : List Int)) 0 hO rfl (h11.up le20) rfl rfl (Src.row (k := 1) hO rfl) hr24 sli61 rfl rfl underlying61 hm1 ?_
   intro A25 c26 cs27 w28 hr29 hO hm1
   refine val (x_assign (.slice A25 (v7 ++ ([t16] : List Int)).length c26) rfl) ?_
   refine nil (region (val (x_add f10_1 rfl) ?_))
   refine val (x_move (.int .i64 (i64w ((i4 : Int) + 1))) rfl) ?_
   refine nil ?_
   exact ⟨_, Nat.lt_succ_self _, i4 + 1, rest5, (v7 ++ ([t16] : List Int)), A25, c26, cs27, H18, rfl, hnx, hm1, (le3.trans le20), hO.pick _ ⟨rfl, trivial⟩, f1_1, rfl, f8_1, f9_1, (incv hinc), hr29⟩
 ·intro r w
  rintro ⟨v32, A33, c34, cs36, i37, H30, rfl, le31, hO, f38, h35⟩
  refine seq (region (val (x_move (.slice A33 v32.length c34) f38) ?_))
  refine val (x_assign (.slice A33 v32.length c34) rfl) ?_
  refine nil (W.ret ?_)
  obtain ⟨H39, le40, h41, hO⟩ := hO.freezeRow (en := (eInt .i64)) 0 rfl rfl rfl h35
  obtain rfl := sj hm0
  exact ⟨H39, ⟨A33, c34, rfl, h41⟩, hO.done⟩
theorem vec_Add_ok {w0 : World} {H0 : IHeap} (hS : Sub H0 w0) {p0 : List Int} {p1 : List Int}  {A1_ : Option Addr} {c1_ : Nat} {A2_ : Option Addr} {c2_ : Nat} (h1_ : RS (eInt .i64) H0 A1_ c1_ p0) (h2_ : RS (eInt .i64) H0 A2_ c2_ p1) {res : (List Int) × Bool} (hm0 : vec_Add p0 p1 = some res) :
  Ok prog 126 [(.slice A1_ p0.length c1_), (.slice A2_ p1.length c2_)].toArray w0 H0 (fun H' v => ∃ (A1 : Option Addr) (c1 : Nat), v = (.tuple #[(.slice A1 res.1.length c1), (.bool res.2)]) ∧ RS (eInt .i64) H' A1 c1 res.1) := by
 unfold vec_Add at hm0
 refine ok_of_W Tryz.func126 rfl Tryz.ntmps126 (ts := [4, 5]) rfl rfl rfl ?_
 have hO := St.start hS
 refine seq (region (o_box 0 [(.slice A2_ p1.length c2_)] hO rfl ?_))
 intro g1 w2 hO
 refine val (x_assign (.slice none 0 0) rfl) ?_
 refine val (x_assign (.bool false) rfl) ?_
 refine nil (seq (seq (region (val (x_move (.slice A1_ p0.length c1_) rfl) ?_))))
 refine val (x_len rfl underlying61) ?_
 refine val (x_ld 0 (.slice A2_ p1.length c2_) hO rfl rfl rfl one61) ?_
 refine val (x_len rfl underlying61) ?_
 refine val (x_neq rfl rfl) ?_
 refine nil (test rfl hm0 ?_ ?_)
 ·intro hb3 hm0
  refine seq (region (val (x_assign (.slice none 0 0) rfl) ?_))
  refine val (x_assign (.bool false) rfl) ?_
  refine nil (W.ret ?_)
  obtain rfl := sj hm0
  exact ⟨H0, ⟨none, 0, rfl, (RS.nil0 _ _)⟩, hO.done⟩
 ·intro hb3 hm0
  refine skip (seq (region (val (x_move (.slice A1_ p0.length c1_) rfl) ?_)))
  obtain ⟨H4, le5, h6, hO⟩ := hO.freezeBlk (en := (eSl (eInt .i64))) (x := p1) 0 rfl ⟨A2_, c2_, rfl, h2_⟩
  refine val (x_fun [(.pointer (some (⟨g1, 0, none⟩)))] rfl) ?_
  obtain ⟨t7, ht8, hm0⟩ := bindSome hm0
  refine o_call hO go153 (vec_each_vec_Add_1_ok hO.sub (h1_.up le5) h6 ht8) rfl ?_
  rintro _ H9 w10 le11 ⟨A12, c13, rfl, h14⟩ hO
  refine val (x_assign (.slice A12 t7.length c13) rfl) ?_
  refine val (x_assign (.bool true) rfl) ?_
  refine nil (W.ret ?_)
  obtain rfl := sj hm0
  exact ⟨H9, ⟨A12, c13, rfl, h14⟩, hO.done⟩
theorem vec_Scale_1_ok {w0 : World} {H0 : IHeap} (hS : Sub H0 w0) {p0 : Int} {p1 : Int} {q_0 : Int}  {a1_ : Addr} (h1_ : At (eInt .i64) H0 a1_ q_0) {res : Int} (hm0 : vec_Scale_1 p0 p1 q_0 = some res) :
  Ok prog 156 [(.int .i64 p0), (.int .i64 p1), (.pointer (some a1_))].toArray w0 H0 (fun H' v => v = (.int .i64 res)) := by
 unfold vec_Scale_1 at hm0
 refine ok_of_W Tryz.func156 rfl Tryz.ntmps156 (ts := [5]) rfl rfl rfl ?_
 have hO := St.start hS
 refine seq (region (val (x_assign (.int .i64 0) rfl) ?_))
 refine nil (seq (region (val (x_move (.int .i64 p1) rfl) ?_)))
 refine val (x_ldc rfl (h1_.int _ hO.sub) one3) ?_
 obtain ⟨t1, ht2, hm0⟩ := bindSome hm0
 refine o_call hO go157 (fix_Mul_ok hO.sub  ht2) rfl ?_
 rintro _ H3 w4 le5 rfl hO
 refine val (x_assign (.int .i64 t1) rfl) ?_
 refine nil (W.ret ?_)
 obtain rfl := sj hm0
 exact ⟨H3, rfl, hO.done⟩
theorem vec_each_vec_Scale_1_ok {w0 : World} {H0 : IHeap} (hS : Sub H0 w0) {p0 : List Int} {q1_0 : Int}  {A1_ : Option Addr} {c1_ : Nat} {a2_ : Addr} (h1_ : RS (eInt .i64) H0 A1_ c1_ p0) (h2_ : At (eInt .i64) H0 a2_ q1_0) {res : (List Int)} (hm0 : vec_each_vec_Scale_1 p0 q1_0 = some res) :
  Ok prog 153 [(.slice A1_ p0.length c1_), (.func (.func 156) #[] #[(.pointer (some a2_))])].toArray w0 H0 (fun H' v => ∃ (A1 : Option Addr) (c1 : Nat), v = (.slice A1 res.length c1) ∧ RS (eInt .i64) H' A1 c1 res) := by
 unfold vec_each_vec_Scale_1 at hm0
 refine ok_of_W Tryz.func153 rfl Tryz.ntmps153 (ts := [4]) rfl rfl rfl ?_
 have hO := St.start hS
 refine seq (region (val (x_assign (.slice none 0 0) rfl) ?_))
 refine nil (seq (region (val (x_assign (.slice none 0 0) rfl) ?_)))
 refine nil (seq (seq (region (val (x_move (.slice A1_ p0.length c1_) rfl) ?_))))
 refine val (x_len rfl underlying61) ?_
 refine val (x_move (.int .i64 0) rfl) ?_
 refine nil ?_
 have hO := hO.nilRowT (α := Int) 0 none 3 (eInt .i64)
 obtain ⟨o1, hm1, hm0⟩ := bindSome hm0
 have hO := hO.pick [(0, .row none 0 3 (eInt .i64).size ([] : List Int).length [])] ⟨rfl, trivial⟩
 refine W.blockLoop (fun r w => ∃ (v7 : List Int) (A8 : Option Addr) (c9 : Nat) (cs10 : List Value) (i4 : Nat) (H2 : IHeap), v7 = o1 ∧ Le H0 H2 ∧ St w0 H0 [] H2 (ol [(0, .row A8 c9 3 (eInt .i64).size v7.length cs10)]) w ∧ r 5 = (.slice A8 v7.length c9) ∧ Rows (eInt .i64) H2 cs10 v7) (fun k r w => ∃ (i4 : Nat) (rest5 : List Int) (v7 : List Int) (A8 : Option Addr) (c9 : Nat) (cs10 : List Value) (H2 : IHeap), k = rest5.length ∧ List.drop i4 p0 = rest5 ∧ vec_each_vec_Scale_1_l1 q1_0 rest5 i4 v7 = some o1 ∧ Le H0 H2 ∧ St w0 H0 [] H2 (ol [(0, .row A8 c9 3 (eInt .i64).size v7.length cs10)]) w ∧ r 1 = (.func (.func 156) #[] #[(.pointer (some a2_))]) ∧ r 5 = (.slice A8 v7.length c9) ∧ r 8 = (.slice A1_ p0.length c1_) ∧ r 9 = (.int .i64 (p0.length : Int)) ∧ r 10 = (.int .i64 (i4 : Int)) ∧ Rows (eInt .i64) H2 cs10 v7) (List.length p0) ?_ ?_ ?_
 ·exact ⟨0, _, ([] : List Int), none, 0, [], _, rfl, rfl, hm1, Le.refl _, hO, rfl, rfl, rfl, rfl, rfl, Rows.nil⟩
 ·
  intro k r w
  rintro ⟨i4, rest5, v7, A8, c9, cs10, H2, rfl, hd12, hm1, le3, hO, f1_1, f5_1, f8_1, f9_1, f10_1, h11⟩
  cases rest5 with
  | nil =>
   rw [vec_each_vec_Scale_1_l1] at hm1
   have hlt := drop_nil hd12
   refine seq (region (val (x_lss f10_1 f9_1) ?_))
   refine nil (seq (W.cond_f (kb rfl hlt) ?_))
   refine W.exit _ rfl ?_
   obtain rfl := sj hm1
   exact ⟨v7, A8, c9, cs10, i4, H2, rfl, le3, hO.pick _ ⟨rfl, trivial⟩, f5_1, h11⟩
  | cons x6 rest5 =>
   rw [vec_each_vec_Scale_1_l1] at hm1
   have hlt := drop_lt hd12
   have hnx := drop_next hd12
   have hinc := inc_len hlt h1_.1 h1_.2.1
   refine seq (region (val (x_lss f10_1 f9_1) ?_))
   refine nil (seq (W.cond_t (kb rfl hlt) ?_))
   refine skip (seq (W.block ?_))
   refine seq (region (val (x_move (.int .i64 (i4 : Int)) f10_1) ?_))
   obtain ⟨a13, h14, hA15, hin⟩ := RS.atR (h1_.up le3) hd12
   refine val (x_ia (sA f8_1 hA15) f10_1 sle61 hin) ?_
   refine val (x_ldc rfl (h14.int _ hO.sub) one3) ?_
   refine val (x_assign (.int .i64 (i4 : Int)) rfl) ?_
   refine val (x_assign (.int .i64 x6) rfl) ?_
   refine nil (region (val (x_move (.slice A8 v7.length c9) f5_1) ?_))
   refine val (x_move (.func (.func 156) #[] #[(.pointer (some a2_))]) f1_1) ?_
   refine val (x_move (.int .i64 (i4 : Int)) rfl) ?_
   refine val (x_move (.int .i64 x6) rfl) ?_
   obtain ⟨t16, ht17, hm1⟩ := bindSome hm1
   refine o_callv (args := [(.int .i64 (i4 : Int)), (.int .i64 x6)]) (caps := [(.pointer (some a2_))]) hO rfl go156 (vec_Scale_1_ok hO.sub (h2_.up le3) ht17) rfl ?_
   rintro _ H18 w19 le20 rfl hO
   refine o_litT (en := (eInt .i64)) 1 [(.int .i64 t16)] ([t16] : List Int) hO sli61 ⟨rfl, trivial⟩ rfl rfl rfl ?_
   intro g21 cs22 w23 hr24 hO
   refine o_appT (en := (eInt .i64)) (xs := v7) (ys := ([t16] : List Int)) 0 hO rfl (h11.up le20) rfl rfl (Src.row (k := 1) hO rfl) hr24 sli61 rfl rfl underlying61 hm1 ?_
   intro A25 c26 cs27 w28 hr29 hO hm1
   refine val (x_assign (.slice A25 (v7 ++ ([t16] : List Int)).length c26) rfl) ?_
   refine nil (region (val (x_add f10_1 rfl) ?_))
   refine val (x_move (.int .i64 (i64w ((i4 : Int) + 1))) rfl) ?_
   refine nil ?_
   exact ⟨_, Nat.lt_succ_self _, i4 + 1, rest5, (v7 ++ ([t16] : List Int)), A25, c26, cs27, H18, rfl, hnx, hm1, (le3.trans le20), hO.pick _ ⟨rfl, trivial⟩, f1_1, rfl, f8_1, f9_1, (incv hinc), hr29⟩
 ·intro r w
  rintro ⟨v32, A33, c34, cs36, i37, H30, rfl, le31, hO, f38, h35⟩
  refine seq (region (val (x_move (.slice A33 v32.length c34) f38) ?_))
  refine val (x_assign (.slice A33 v32.length c34) rfl) ?_
  refine nil (W.ret ?_)
  obtain ⟨H39, le40, h41, hO⟩ := hO.freezeRow (en := (eInt .i64)) 0 rfl rfl rfl h35
  obtain rfl := sj hm0
  exact ⟨H39, ⟨A33, c34, rfl, h41⟩, hO.done⟩
theorem vec_Scale_ok {w0 : World} {H0 : IHeap} (hS : Sub H0 w0) {p0 : List Int} {p1 : Int}  {A1_ : Option Addr} {c1_ : Nat} (h1_ : RS (eInt .i64) H0 A1_ c1_ p0) {res : (List Int)} (hm0 : vec_Scale p0 p1 = some res) :
  Ok prog 127 [(.slice A1_ p0.length c1_), (.int .i64 p1)].toArray w0 H0 (fun H' v => ∃ (A1 : Option Addr) (c1 : Nat), v = (.slice A1 res.length c1) ∧ RS (eInt .i64) H' A1 c1 res) := by
 unfold vec_Scale at hm0
 refine ok_of_W Tryz.func127 rfl Tryz.ntmps127 (ts := [4]) rfl rfl rfl ?_
 have hO := St.start hS
 refine seq (region (o_box 0 [(.int .i64 p1)] hO rfl ?_))
 intro g1 w2 hO
 refine val (x_assign (.slice none 0 0) rfl) ?_
 refine nil (seq (region (val (x_move (.slice A1_ p0.length c1_) rfl) ?_)))
 obtain ⟨H3, le4, h5, hO⟩ := hO.freezeBlk (en := (eInt .i64)) (x := p1) 0 rfl rfl
 refine val (x_fun [(.pointer (some (⟨g1, 0, none⟩)))] rfl) ?_
 obtain ⟨t6, ht7, hm0⟩ := bindSome hm0
 refine o_call hO go153 (vec_each_vec_Scale_1_ok hO.sub (h1_.up le4) h5 ht7) rfl ?_
 rintro _ H8 w9 le10 ⟨A11, c12, rfl, h13⟩ hO
 refine val (x_assign (.slice A11 t6.length c12) rfl) ?_
 refine nil (W.ret ?_)
 obtain rfl := sj hm0
 exact ⟨H8, ⟨A11, c12, rfl, h13⟩, hO.done⟩
end Go.Sw

/- The calls compute the mirrors. -/
import Derived.Test.YtahaedoeckgidaaGreatZgF
import Derived.Test.YtahaedoeckgidaaGreatZgC0
import Derived.Test.YtahaedoeckgidaaGreatZgC1
import Derived.Test.YtahaedoeckgidaaGreatZgC8
import Derived.Test.YtahaedoeckgidaaGreatZgC11
import Derived.Test.YtahaedoeckgidaaGreatZgC12
import Derived.Test.YtahaedoeckgidaaGreatZgC15
import Derived.Test.YtahaedoeckgidaaGreatZgC17
set_option linter.unusedVariables false
set_option linter.unusedSimpArgs false
set_option maxRecDepth 100000
namespace Go.Sw
open WL (val nil gval yes no)
open W (region test seq skip)
open WA (take)
open Go.Proofs.Tryz
open Go.Proofs
theorem switchboardlaw19_FleetTrue_ok {w0 : World} {H0 : IHeap} (hS : Sub H0 w0) {p0 : ApiModel} {p1 : PlaceMap} {p2 : List (List Int)} {p3 : List Switchboardlaw19Act}  {A1_ : Option Addr} {c1_ : Nat} {A2_ : Option Addr} {c2_ : Nat} {A3_ : Option Addr} {c3_ : Nat} {A4_ : Option Addr} {c4_ : Nat} (h1_ : RS eApiLayer H0 A1_ c1_ p0.Layers) (h2_ : RS (eSl (eInt .i64)) H0 A2_ c2_ p1.Holders) (h3_ : RS (eSl (eInt .i64)) H0 A3_ c3_ p2) (h4_ : RS eSwitchboardlaw19Act H0 A4_ c4_ p3) {res : Bool} (hm0 : switchboardlaw19_FleetTrue p0 p1 p2 p3 = some res) :
  Ok prog 5 [(.agg #[(.int .i64 p0.Dim), (.slice A1_ p0.Layers.length c1_)]), (.agg #[(.int .i64 p1.Epoch), (.slice A2_ p1.Holders.length c2_)]), (.slice A3_ p2.length c3_), (.slice A4_ p3.length c4_)].toArray w0 H0 (fun H' v => v = (.bool res)) := by
 unfold switchboardlaw19_FleetTrue at hm0
 refine ok_of_W Tryz.func5 rfl Tryz.ntmps5 (ts := [8]) rfl rfl rfl ?_
 have hO := St.start hS
 refine seq (region (o_box 0 [(.int .i64 p0.Dim), (.slice A1_ p0.Layers.length c1_)] hO rfl ?_))
 intro g1 w2 hO
 refine o_box 1 [(.int .i64 p1.Epoch), (.slice A2_ p1.Holders.length c2_)] hO rfl ?_
 intro g3 w4 hO
 refine val (x_assign (.bool false) rfl) ?_
 refine nil (seq (seq (region (val (x_lds 0 [(.int .i64 p0.Dim), (.slice A1_ p0.Layers.length c1_)] hO rfl rfl agg24 rfl rfl) ?_))))
 obtain ⟨t5, ht6, hm0⟩ := bindSome hm0
 refine o_call hO go7 (switchboardref15_Small_ok hO.sub h1_ ht6) rfl ?_
 rintro _ H7 w8 le9 rfl hO
 refine val (x_not rfl) ?_
 refine val (x_move (.bool (!t5)) rfl) ?_
 refine gval rfl rfl (fun hb => x_fa rfl fo27_1) ?_
 refine gval rfl rfl (fun hb => x_ld 1 (.slice A2_ p1.Holders.length c2_) hO rfl (gv hb) rfl one25) ?_
 rcases btest hm0 with ⟨hb10, hm0⟩ | ⟨hb10, hm0⟩
 ·refine no rfl (kb rfl hb10) rfl ?_
  refine no rfl (kb rfl hb10) rfl ?_
  refine val (x_pick_t (kb rfl hb10) (.bool true) rfl) ?_
  refine val (x_move (.bool true) rfl) ?_
  refine no rfl rfl rfl ?_
  refine no rfl rfl rfl ?_
  refine no rfl rfl rfl ?_
  refine val (x_pick_t rfl (.bool true) rfl) ?_
  refine val (x_move (.bool true) rfl) ?_
  refine no rfl rfl rfl ?_
  refine no rfl rfl rfl ?_
  refine no rfl rfl rfl ?_
  refine no rfl rfl rfl ?_
  refine no rfl rfl rfl ?_
  refine val (x_pick_t rfl (.bool true) rfl) ?_
  refine nil (W.cond_t rfl ?_)
  refine seq (region ?_)
  obtain ⟨t11, ht12, hm0⟩ := bindSome hm0
  refine o_call hO go10 (switchboardlaw19_awake_ok hO.sub  ht12) rfl ?_
  rintro _ H13 w14 le15 rfl hO
  refine val (x_assign (.bool t11) rfl) ?_
  refine nil (W.ret ?_)
  obtain rfl := sj hm0
  exact ⟨H13, rfl, hO.done⟩
 ·refine yes rfl (kb rfl hb10) ?_
  obtain ⟨t16, ht17, hm0⟩ := bindSome hm0
  refine o_call hO go8 (switchboardref03_Small_ok hO.sub (h2_.up le9) ht17) (args1 (by exact gkF hb10)) ?_
  rintro _ H18 w19 le20 rfl hO
  refine yes rfl (kb rfl hb10) ?_
  refine val (x_not rfl) ?_
  refine val (x_pick_f (kb rfl hb10) (.bool (!t16)) rfl) ?_
  refine val (x_move (.bool (!t16)) rfl) ?_
  refine gval rfl rfl (fun hb => x_move (.slice A3_ p2.length c3_) rfl) ?_
  rcases btest hm0 with ⟨hb21, hm0⟩ | ⟨hb21, hm0⟩
  ·refine no rfl (kb rfl hb21) rfl ?_
   refine no rfl (kb rfl hb21) rfl ?_
   refine val (x_pick_t (kb rfl hb21) (.bool true) rfl) ?_
   refine val (x_move (.bool true) rfl) ?_
   refine no rfl rfl rfl ?_
   refine no rfl rfl rfl ?_
   refine no rfl rfl rfl ?_
   refine no rfl rfl rfl ?_
   refine no rfl rfl rfl ?_
   refine val (x_pick_t rfl (.bool true) rfl) ?_
   refine nil (W.cond_t rfl ?_)
   refine seq (region ?_)
   obtain ⟨t22, ht23, hm0⟩ := bindSome hm0
   refine o_call hO go10 (switchboardlaw19_awake_ok hO.sub  ht23) rfl ?_
   rintro _ H24 w25 le26 rfl hO
   refine val (x_assign (.bool t22) rfl) ?_
   refine nil (W.ret ?_)
   obtain rfl := sj hm0
   exact ⟨H24, rfl, hO.done⟩
  ·refine yes rfl (kb rfl hb21) ?_
   obtain ⟨t27, ht28, hm0⟩ := bindSome hm0
   refine o_call hO go8 (switchboardref03_Small_ok hO.sub (h3_.up (le9.trans le20)) ht28) (args1 (by exact gkF hb21)) ?_
   rintro _ H29 w30 le31 rfl hO
   refine yes rfl (kb rfl hb21) ?_
   refine val (x_not rfl) ?_
   refine val (x_pick_f (kb rfl hb21) (.bool (!t27)) rfl) ?_
   refine val (x_move (.bool (!t27)) rfl) ?_
   refine gval rfl rfl (fun hb => x_lds 0 [(.int .i64 p0.Dim), (.slice A1_ p0.Layers.length c1_)] hO rfl rfl agg24 rfl rfl) ?_
   refine gval rfl rfl (fun hb => x_lds 1 [(.int .i64 p1.Epoch), (.slice A2_ p1.Holders.length c2_)] hO rfl rfl agg27 rfl rfl) ?_
   refine gval rfl rfl (fun hb => x_move (.slice A3_ p2.length c3_) rfl) ?_
   rcases btest hm0 with ⟨hb32, hm0⟩ | ⟨hb32, hm0⟩
   ·refine no rfl (kb rfl hb32) rfl ?_
    refine no rfl (kb rfl hb32) rfl ?_
    refine val (x_pick_t (kb rfl hb32) (.bool true) rfl) ?_
    refine nil (W.cond_t rfl ?_)
    refine seq (region ?_)
    obtain ⟨t33, ht34, hm0⟩ := bindSome hm0
    refine o_call hO go10 (switchboardlaw19_awake_ok hO.sub  ht34) rfl ?_
    rintro _ H35 w36 le37 rfl hO
    refine val (x_assign (.bool t33) rfl) ?_
    refine nil (W.ret ?_)
    obtain rfl := sj hm0
    exact ⟨H35, rfl, hO.done⟩
   ·refine yes rfl (kb rfl hb32) ?_
    obtain ⟨t38, ht39, hm0⟩ := bindSome hm0
    refine o_call hO go9 (switchboardref19_May_ok hO.sub (h1_.up (le9.trans (le20.trans le31))) (h2_.up (le9.trans (le20.trans le31))) (h3_.up (le9.trans (le20.trans le31))) ht39) (args3 (by exact gkF hb32) (by exact gkF hb32) (by exact gkF hb32)) ?_
    rintro _ H40 w41 le42 rfl hO
    refine yes rfl (kb rfl hb32) ?_
    refine val (x_not rfl) ?_
    refine val (x_pick_f (kb rfl hb32) (.bool (!t38)) rfl) ?_
    refine nil (test rfl hm0 ?_ ?_)
    ·intro hb43 hm0
     refine seq (region ?_)
     obtain ⟨t44, ht45, hm0⟩ := bindSome hm0
     refine o_call hO go10 (switchboardlaw19_awake_ok hO.sub  ht45) rfl ?_
     rintro _ H46 w47 le48 rfl hO
     refine val (x_assign (.bool t44) rfl) ?_
     refine nil (W.ret ?_)
     obtain rfl := sj hm0
     exact ⟨H46, rfl, hO.done⟩
    ·intro hb43 hm0
     refine skip (seq (region (val (x_lds 0 [(.int .i64 p0.Dim), (.slice A1_ p0.Layers.length c1_)] hO rfl rfl agg24 rfl rfl) ?_)))
     refine val (x_lds 1 [(.int .i64 p1.Epoch), (.slice A2_ p1.Holders.length c2_)] hO rfl rfl agg27 rfl rfl) ?_
     refine val (x_move (.slice A3_ p2.length c3_) rfl) ?_
     obtain ⟨t49, ht50, hm0⟩ := bindSome hm0
     refine o_callO hO go11 (fleet_New_ok hO.sub (h1_.up (le9.trans (le20.trans (le31.trans le42)))) (h2_.up (le9.trans (le20.trans (le31.trans le42)))) (h3_.up (le9.trans (le20.trans (le31.trans le42)))) ht50) rfl ?_
     rintro _ H51 O54 w52 le53 (⟨he55, rfl⟩ | ⟨x56, g57, cs58, A60, c61, cs62, A64, c65, cs66, he55, rfl, h59, h63, h67, hk68, hk69, hk70⟩) hO'
     ·have hO := hO.call hO'.done; clear hO'
      rw [he55] at hm0; dsimp only at hm0
      refine val (x_move (.tuple #[(.pointer none), (.int .i64 t49.2)]) rfl) ?_
      refine val (x_extract (.pointer none) rfl rfl) ?_
      refine val (x_extract (.int .i64 t49.2) rfl rfl) ?_
      refine val (x_assign (.pointer none) rfl) ?_
      refine val (x_assign (.int .i64 t49.2) rfl) ?_
      refine nil (seq (seq (region (val (x_move (.pointer none) rfl) ?_))))
      refine val (x_eqpn underlying33 rfl rfl) ?_
      refine val (x_move (.bool true) rfl) ?_
      refine no rfl rfl rfl ?_
      refine no rfl rfl rfl ?_
      refine val (x_pick_t rfl (.bool true) rfl) ?_
      refine nil (W.cond_t rfl ?_)
      refine seq (region (val (x_assign (.bool false) rfl) ?_))
      refine nil (W.ret ?_)
      obtain rfl := sj hm0
      exact ⟨H51, rfl, hO.done⟩
     ·have hO := hO.callB hO' 2 [.blk g57 cs58 93, .row A60 c61 61 (eSl (eInt .i64)).size x56.answers.length cs62, .row A64 c65 4 eBool.size x56.answered.length cs66] ⟨hk68, hk69, hk70, trivial⟩; clear hO'
      rw [he55] at hm0; dsimp only at hm0
      refine val (x_move (.tuple #[(.pointer (some ⟨g57, 0, none⟩)), (.int .i64 t49.2)]) rfl) ?_
      refine val (x_extract (.pointer (some ⟨g57, 0, none⟩)) rfl rfl) ?_
      refine val (x_extract (.int .i64 t49.2) rfl rfl) ?_
      refine val (x_assign (.pointer (some ⟨g57, 0, none⟩)) rfl) ?_
      refine val (x_assign (.int .i64 t49.2) rfl) ?_
      refine nil (seq (seq (region (val (x_move (.pointer (some ⟨g57, 0, none⟩)) rfl) ?_))))
      refine val (x_eqpn underlying33 rfl rfl) ?_
      refine val (x_move (.bool false) rfl) ?_
      refine yes rfl rfl ?_
      refine val (x_move (.int .i64 t49.2) rfl) ?_
      refine yes rfl rfl ?_
      refine val (x_neq rfl rfl) ?_
      refine val (x_pick_f rfl (.bool (t49.2 != 0)) rfl) ?_
      refine nil (test rfl hm0 ?_ ?_)
      ·intro hb71 hm0
       refine seq (region (val (x_assign (.bool false) rfl) ?_))
       refine nil (W.ret ?_)
       obtain rfl := sj hm0
       exact ⟨H51, rfl, hO.done⟩
      ·intro hb71 hm0
       refine skip (seq (region (val (x_lds 0 [(.int .i64 p0.Dim), (.slice A1_ p0.Layers.length c1_)] hO rfl rfl agg24 rfl rfl) ?_)))
       refine val (x_move (.slice A3_ p2.length c3_) rfl) ?_
       obtain ⟨t72, ht73, hm0⟩ := bindSome hm0
       refine o_call hO go13 (switchboardref15_Forward_ok hO.sub (h1_.up (le9.trans (le20.trans (le31.trans (le42.trans le53))))) (h3_.up (le9.trans (le20.trans (le31.trans (le42.trans le53))))) ht73) rfl ?_
       rintro _ H74 w75 le76 ⟨A77, c78, rfl, h79⟩ hO
       refine val (x_assign (.slice A77 t72.length c78) rfl) ?_
       refine nil (seq (seq (region (val (x_assign (.int .i64 0) rfl) ?_))))
       refine nil ?_
       obtain ⟨o80, hm1, hm0⟩ := bindSome hm0
       have hO := hO.pick [(2, .blk g57 cs58 93), (3, .row A60 c61 61 (eSl (eInt .i64)).size x56.answers.length cs62), (4, .row A64 c65 4 eBool.size x56.answered.length cs66)] ⟨rfl, rfl, rfl, trivial⟩
       refine W.blockLoop (fun r w => ∃ (v86 : FleetFleet) (cs87 : List Value) (A89 : Option Addr) (c90 : Nat) (cs91 : List Value) (A93 : Option Addr) (c94 : Nat) (cs95 : List Value) (v97 : Int) (H81 : IHeap), .out (v86, v97) = o80 ∧ Le H74 H81 ∧ St w0 H0 [] H81 (ol [(2, .blk g57 cs87 93), (3, .row A89 c90 61 (eSl (eInt .i64)).size v86.answers.length cs91), (4, .row A93 c94 4 eBool.size v86.answered.length cs95)]) w ∧ Enc.rep (eFleetFleet (.slice A89 v86.answers.length c90) (.slice A93 v86.answered.length c94)) H81 cs87 v86 ∧ Rows (eSl (eInt .i64)) H81 cs91 v86.answers ∧ Rows eBool H81 cs95 v86.answered) (fun k r w => ∃ (rest84 : Nat) (v86 : FleetFleet) (cs87 : List Value) (A89 : Option Addr) (c90 : Nat) (cs91 : List Value) (A93 : Option Addr) (c94 : Nat) (cs95 : List Value) (v97 : Int) (H81 : IHeap), rest84 = k ∧ switchboardlaw19_FleetTrue_l1 p3 t72 rest84 v86 v97 = some o80 ∧ Le H74 H81 ∧ St w0 H0 [] H81 (ol [(2, .blk g57 cs87 93), (3, .row A89 c90 61 (eSl (eInt .i64)).size v86.answers.length cs91), (4, .row A93 c94 4 eBool.size v86.answered.length cs95)]) w ∧ r 3 = (.slice A4_ p3.length c4_) ∧ r 9 = (.pointer (some ⟨g57, 0, none⟩)) ∧ r 11 = (.slice A77 t72.length c78) ∧ r 12 = (.int .i64 v97) ∧ Enc.rep (eFleetFleet (.slice A89 v86.answers.length c90) (.slice A93 v86.answered.length c94)) H81 cs87 v86 ∧ Rows (eSl (eInt .i64)) H81 cs91 v86.answers ∧ Rows eBool H81 cs95 v86.answered) FUEL ?_ ?_ ?_
       ·exact ⟨_, x56, cs58, A60, c61, cs62, A64, c65, cs66, 0, _, rfl, hm1, Le.refl _, hO, rfl, rfl, rfl, rfl, (Enc.mono _ le76 h59), (h63.up le76), (h67.up le76)⟩
       ·
        intro k r w
        rintro ⟨rest84, v86, cs87, A89, c90, cs91, A93, c94, cs95, v97, H81, rfl, hm1, le82, hO, f3_1, f9_1, f11_1, f12_1, h88, h92, h96⟩
        cases rest84 with
        | zero => rw [switchboardlaw19_FleetTrue_l1] at hm1; cases hm1
        | succ rest84 =>
         rw [switchboardlaw19_FleetTrue_l1] at hm1
         refine seq (seq (region (val (x_move (.int .i64 v97) f12_1) ?_)))
         refine val (x_move (.slice A4_ p3.length c4_) f3_1) ?_
         refine val (x_len rfl underlying76) ?_
         refine val (x_lss rfl rfl) ?_
         refine val (x_move (.bool (decide (v97 < (p3.length : Int)))) rfl) ?_
         refine gval rfl rfl (fun hb => x_move (.int .i64 v97) f12_1) ?_
         refine gval rfl rfl (fun hb => x_lss (gv hb) rfl) ?_
         refine val (x_pick rfl (.bool ((decide (v97 < (p3.length : Int))) && (decide (v97 < 200)))) pick_and) ?_
         refine nil (test rfl hm1 ?_ ?_)
         ·intro hb98 hm1
          refine skip (seq (W.block ?_))
          refine seq (region (val (x_move (.pointer (some ⟨g57, 0, none⟩)) f9_1) ?_))
          refine val (x_move (.slice A4_ p3.length c4_) f3_1) ?_
          refine val (x_move (.int .i64 v97) f12_1) ?_
          obtain ⟨hin102, hm1⟩ := chk hm1
          obtain ⟨a99, h100, hA101⟩ := RS.at_ (h4_.up (le9.trans (le20.trans (le31.trans (le42.trans (le53.trans (le76.trans le82))))))) hin102
          refine val (x_ia (sA rfl hA101) rfl sle76 hin102) ?_
          obtain ⟨cs103, hr104, hc105⟩ := At.agg h100
          obtain rfl := hr104
          refine val (x_ldv rfl (hc105 _ _ _ hO.sub agg79)) ?_
          obtain ⟨t106, ht107, hm1⟩ := bindSome hm1
          refine o_callL (args := [(.pointer (some ⟨g57, 0, none⟩)), (.agg #[(.int .u8 ((at0 p3 v97).Kind)), (.int .u8 ((at0 p3 v97).N)), (.int .u8 ((at0 p3 v97).M))])]) [(2, .blk g57 cs87 93), (3, .row A89 c90 61 (eSl (eInt .i64)).size v86.answers.length cs91), (4, .row A93 c94 4 eBool.size v86.answered.length cs95)] hO ⟨rfl, rfl, rfl, trivial⟩ (names_nd (ns := [2, 3, 4]) rfl (by decide)) go27 (switchboardlaw19_do_ok (p0 := v86) (p1 := (⟨(at0 p3 v97).Kind, (at0 p3 v97).N, (at0 p3 v97).M⟩ : Switchboardlaw19Act)) (hO.enterL [(2, .blk g57 cs87 93), (3, .row A89 c90 61 (eSl (eInt .i64)).size v86.answers.length cs91), (4, .row A93 c94 4 eBool.size v86.answered.length cs95)] ⟨rfl, rfl, rfl, trivial⟩ (names_nd (ns := [2, 3, 4]) rfl (by decide))) h88 h92 h96 ht107) rfl ?_
          rintro _ H108 O111 w109 le110 ⟨cs112, A115, c116, cs117, A120, c121, cs122, rfl, h113, h118, h123, hk114, hk119, hk124⟩ hO
          have hO := hO.named [.blk g57 cs112 93, .row A115 c116 61 (eSl (eInt .i64)).size t106.answers.length cs117, .row A120 c121 4 eBool.size t106.answered.length cs122] ⟨hk114, hk119, hk124, trivial⟩
          refine nil (seq (region (val (x_move (.pointer (some ⟨g57, 0, none⟩)) f9_1) ?_)))
          obtain ⟨t125, ht126, hm1⟩ := bindSome hm1
          refine o_callL (args := [(.pointer (some ⟨g57, 0, none⟩))]) [(2, .blk g57 cs112 93), (3, .row A115 c116 61 (eSl (eInt .i64)).size t106.answers.length cs117), (4, .row A120 c121 4 eBool.size t106.answered.length cs122)] hO ⟨rfl, rfl, rfl, trivial⟩ (names_nd (ns := [2, 3, 4]) rfl (by decide)) go15 (fleet_Fleet_Done_ok (p0 := t106) (hO.enterL [(2, .blk g57 cs112 93), (3, .row A115 c116 61 (eSl (eInt .i64)).size t106.answers.length cs117), (4, .row A120 c121 4 eBool.size t106.answered.length cs122)] ⟨rfl, rfl, rfl, trivial⟩ (names_nd (ns := [2, 3, 4]) rfl (by decide))) h113 h118 h123 ht126) rfl ?_
          rintro _ H127 O130 w128 le129 ⟨cs131, A134, c135, cs136, A139, c140, cs141, A144, c145, rfl, h132, h137, h142, h146, hk133, hk138, hk143⟩ hO
          have hO := hO.named [.blk g57 cs131 93, .row A134 c135 61 (eSl (eInt .i64)).size t125.1.answers.length cs136, .row A139 c140 4 eBool.size t125.1.answered.length cs141] ⟨hk133, hk138, hk143, trivial⟩
          refine val (x_move (.tuple #[(.slice A144 t125.2.1.length c145), (.bool t125.2.2)]) rfl) ?_
          refine val (x_extract (.slice A144 t125.2.1.length c145) rfl rfl) ?_
          refine val (x_extract (.bool t125.2.2) rfl rfl) ?_
          refine val (x_assign (.slice A144 t125.2.1.length c145) rfl) ?_
          refine val (x_assign (.bool t125.2.2) rfl) ?_
          refine nil (seq (region (val (x_move (.bool t125.2.2) rfl) ?_)))
          refine val (x_move (.bool t125.2.2) rfl) ?_
          refine gval rfl rfl (fun hb => x_move (.slice A144 t125.2.1.length c145) rfl) ?_
          refine gval rfl rfl (fun hb => x_move (.slice A77 t72.length c78) f11_1) ?_
          rcases btest hm1 with ⟨hb147, hm1⟩ | ⟨hb147, hm1⟩
          ·refine yes rfl (kb rfl hb147) ?_
           obtain ⟨t148, ht149, hm1⟩ := bindSome hm1
           refine o_call hO go16 (switchboardref15_Same_ok hO.sub h146 (h79.up (le82.trans (le110.trans le129))) ht149) (args2 (by exact gkT hb147) (by exact gkT hb147)) ?_
           rintro _ H150 w151 le152 rfl hO
           refine yes rfl (kb rfl hb147) ?_
           refine val (x_not rfl) ?_
           refine val (x_pick_t (kb rfl hb147) (.bool (!t148)) rfl) ?_
           refine val (x_move (.bool (!t148)) rfl) ?_
           refine gval rfl rfl (fun hb => x_move (.bool t125.2.2) rfl) ?_
           refine gval rfl rfl (fun hb => x_not (gv hb)) ?_
           refine gval rfl rfl (fun hb => x_move (.bool (!t125.2.2)) (gv hb)) ?_
           rcases btest hm1 with ⟨hb153, hm1⟩ | ⟨hb153, hm1⟩
           ·refine WL.nou rfl (by exact gnT hb153) ?_
            refine WL.nou rfl (by exact gnT hb153) ?_
            refine WL.nou rfl (by exact gnT hb153) ?_
            refine no rfl (kb rfl hb153) rfl ?_
            refine val (x_pick_t (kb rfl hb153) (.bool true) rfl) ?_
            refine val (x_move (.bool true) rfl) ?_
            refine no rfl rfl rfl ?_
            refine no rfl rfl rfl ?_
            refine no rfl rfl rfl ?_
            refine no rfl rfl rfl ?_
            refine val (x_pick_t rfl (.bool true) rfl) ?_
            refine nil (W.cond_t rfl ?_)
            refine seq (region (val (x_assign (.bool false) rfl) ?_))
            refine nil (W.ret ?_)
            obtain rfl := sj hm1
            dsimp only at hm0
            obtain rfl := sj hm0
            exact ⟨H150, rfl, hO.done⟩
           ·refine gval rfl (by exact gkF hb153) (fun hb => x_move (.slice A144 t125.2.1.length c145) rfl) ?_
            refine gval rfl (by exact gkF hb153) (fun hb => x_len (gv hb) underlying25) ?_
            refine gval rfl (by exact gkF hb153) (fun hb => x_neq (gv hb) rfl) ?_
            refine yes rfl (kb rfl hb153) ?_
            refine val (x_pick (by exact gkF hb153) (.bool ((!t125.2.2) && ((t125.2.1.length : Int) != 0))) pick_and) ?_
            refine val (x_pick_f (kb rfl hb153) (.bool ((!t125.2.2) && ((t125.2.1.length : Int) != 0))) rfl) ?_
            refine val (x_move (.bool ((!t125.2.2) && ((t125.2.1.length : Int) != 0))) rfl) ?_
            refine gval rfl rfl (fun hb => x_move (.pointer (some ⟨g57, 0, none⟩)) f9_1) ?_
            rcases btest hm1 with ⟨hb154, hm1⟩ | ⟨hb154, hm1⟩
            ·refine no rfl (kb rfl hb154) rfl ?_
             refine no rfl (kb rfl hb154) rfl ?_
             refine no rfl (kb rfl hb154) rfl ?_
             refine val (x_pick_t (kb rfl hb154) (.bool true) rfl) ?_
             refine nil (W.cond_t rfl ?_)
             refine seq (region (val (x_assign (.bool false) rfl) ?_))
             refine nil (W.ret ?_)
             obtain rfl := sj hm1
             dsimp only at hm0
             obtain rfl := sj hm0
             exact ⟨H150, rfl, hO.done⟩
            ·refine yes rfl (kb rfl hb154) ?_
             obtain ⟨t155, ht156, hm1⟩ := bindSome hm1
             refine o_callL (args := [(.pointer (some ⟨g57, 0, none⟩))]) [(2, .blk g57 cs131 93), (3, .row A134 c135 61 (eSl (eInt .i64)).size t125.1.answers.length cs136), (4, .row A139 c140 4 eBool.size t125.1.answered.length cs141)] hO ⟨rfl, rfl, rfl, trivial⟩ (names_nd (ns := [2, 3, 4]) rfl (by decide)) go28 (fleet_Fleet_Bag_ok (p0 := t125.1) (hO.enterL [(2, .blk g57 cs131 93), (3, .row A134 c135 61 (eSl (eInt .i64)).size t125.1.answers.length cs136), (4, .row A139 c140 4 eBool.size t125.1.answered.length cs141)] ⟨rfl, rfl, rfl, trivial⟩ (names_nd (ns := [2, 3, 4]) rfl (by decide))) (Enc.mono _ le152 h132) (h137.up le152) (h142.up le152) ht156) (args1 (by exact gkF hb154)) ?_
             rintro _ H157 O160 w158 le159 ⟨cs161, A164, c165, cs166, A169, c170, cs171, A174, c175, rfl, h162, h167, h172, h176, hk163, hk168, hk173⟩ hO
             have hO := hO.named [.blk g57 cs161 93, .row A164 c165 61 (eSl (eInt .i64)).size t155.1.answers.length cs166, .row A169 c170 4 eBool.size t155.1.answered.length cs171] ⟨hk163, hk168, hk173, trivial⟩
             refine yes rfl (kb rfl hb154) ?_
             refine val (x_len rfl underlying55) ?_
             refine yes rfl (kb rfl hb154) ?_
             refine val (x_gtr rfl rfl) ?_
             refine val (x_pick_f (kb rfl hb154) (.bool (decide (200 < (t155.2.length : Int)))) rfl) ?_
             refine nil (test rfl hm1 ?_ ?_)
             ·intro hb177 hm1
              refine seq (region (val (x_assign (.bool false) rfl) ?_))
              refine nil (W.ret ?_)
              obtain rfl := sj hm1
              dsimp only at hm0
              obtain rfl := sj hm0
              exact ⟨H157, rfl, hO.done⟩
             ·intro hb177 hm1
              refine skip (region (val (x_move (.int .i64 v97) f12_1) ?_))
              refine val (x_add rfl rfl) ?_
              refine val (x_assign (.int .i64 (i64w (v97 + 1))) rfl) ?_
              refine nil ?_
              exact ⟨_, Nat.lt_succ_self _, rest84, t155.1, cs161, A164, c165, cs166, A169, c170, cs171, i64w (v97 + 1), H157, rfl, hm1, (le82.trans (le110.trans (le129.trans (le152.trans le159)))), hO.pick _ ⟨rfl, rfl, rfl, trivial⟩, f3_1, f9_1, f11_1, rfl, h162, h167, h172⟩
          ·refine no rfl (kb rfl hb147) rfl ?_
           refine no rfl (kb rfl hb147) rfl ?_
           refine val (x_pick_f (kb rfl hb147) (.bool false) rfl) ?_
           refine val (x_move (.bool false) rfl) ?_
           refine yes rfl rfl ?_
           refine val (x_move (.bool t125.2.2) rfl) ?_
           refine yes rfl rfl ?_
           refine val (x_not rfl) ?_
           refine yes rfl rfl ?_
           refine val (x_move (.bool (!t125.2.2)) rfl) ?_
           refine gval rfl rfl (fun hb => x_move (.slice A144 t125.2.1.length c145) rfl) ?_
           refine gval rfl rfl (fun hb => x_len (gv hb) underlying25) ?_
           refine gval rfl rfl (fun hb => x_neq (gv hb) rfl) ?_
           refine yes rfl rfl ?_
           refine val (x_pick rfl (.bool ((!t125.2.2) && ((t125.2.1.length : Int) != 0))) pick_and) ?_
           refine val (x_pick_f rfl (.bool ((!t125.2.2) && ((t125.2.1.length : Int) != 0))) rfl) ?_
           refine val (x_move (.bool ((!t125.2.2) && ((t125.2.1.length : Int) != 0))) rfl) ?_
           refine gval rfl rfl (fun hb => x_move (.pointer (some ⟨g57, 0, none⟩)) f9_1) ?_
           rcases btest hm1 with ⟨hb178, hm1⟩ | ⟨hb178, hm1⟩
           ·refine no rfl (kb rfl hb178) rfl ?_
            refine no rfl (kb rfl hb178) rfl ?_
            refine no rfl (kb rfl hb178) rfl ?_
            refine val (x_pick_t (kb rfl hb178) (.bool true) rfl) ?_
            refine nil (W.cond_t rfl ?_)
            refine seq (region (val (x_assign (.bool false) rfl) ?_))
            refine nil (W.ret ?_)
            obtain rfl := sj hm1
            dsimp only at hm0
            obtain rfl := sj hm0
            exact ⟨H127, rfl, hO.done⟩
           ·refine yes rfl (kb rfl hb178) ?_
            obtain ⟨t179, ht180, hm1⟩ := bindSome hm1
            refine o_callL (args := [(.pointer (some ⟨g57, 0, none⟩))]) [(2, .blk g57 cs131 93), (3, .row A134 c135 61 (eSl (eInt .i64)).size t125.1.answers.length cs136), (4, .row A139 c140 4 eBool.size t125.1.answered.length cs141)] hO ⟨rfl, rfl, rfl, trivial⟩ (names_nd (ns := [2, 3, 4]) rfl (by decide)) go28 (fleet_Fleet_Bag_ok (p0 := t125.1) (hO.enterL [(2, .blk g57 cs131 93), (3, .row A134 c135 61 (eSl (eInt .i64)).size t125.1.answers.length cs136), (4, .row A139 c140 4 eBool.size t125.1.answered.length cs141)] ⟨rfl, rfl, rfl, trivial⟩ (names_nd (ns := [2, 3, 4]) rfl (by decide))) h132 h137 h142 ht180) (args1 (by exact gkF hb178)) ?_
            rintro _ H181 O184 w182 le183 ⟨cs185, A188, c189, cs190, A193, c194, cs195, A198, c199, rfl, h186, h191, h196, h200, hk187, hk192, hk197⟩ hO
            have hO := hO.named [.blk g57 cs185 93, .row A188 c189 61 (eSl (eInt .i64)).size t179.1.answers.length cs190, .row A193 c194 4 eBool.size t179.1.answered.length cs195] ⟨hk187, hk192, hk197, trivial⟩
            refine yes rfl (kb rfl hb178) ?_
            refine val (x_len rfl underlying55) ?_
            refine yes rfl (kb rfl hb178) ?_
            refine val (x_gtr rfl rfl) ?_
            refine val (x_pick_f (kb rfl hb178) (.bool (decide (200 < (t179.2.length : Int)))) rfl) ?_
            refine nil (test rfl hm1 ?_ ?_)
            ·intro hb201 hm1
             refine seq (region (val (x_assign (.bool false) rfl) ?_))
             refine nil (W.ret ?_)
             obtain rfl := sj hm1
             dsimp only at hm0
             obtain rfl := sj hm0
             exact ⟨H181, rfl, hO.done⟩
            ·intro hb201 hm1
             refine skip (region (val (x_move (.int .i64 v97) f12_1) ?_))
             refine val (x_add rfl rfl) ?_
             refine val (x_assign (.int .i64 (i64w (v97 + 1))) rfl) ?_
             refine nil ?_
             exact ⟨_, Nat.lt_succ_self _, rest84, t179.1, cs185, A188, c189, cs190, A193, c194, cs195, i64w (v97 + 1), H181, rfl, hm1, (le82.trans (le110.trans (le129.trans le183))), hO.pick _ ⟨rfl, rfl, rfl, trivial⟩, f3_1, f9_1, f11_1, rfl, h186, h191, h196⟩
         ·intro hb98 hm1
          refine W.exit _ rfl ?_
          obtain rfl := sj hm1
          exact ⟨v86, cs87, A89, c90, cs91, A93, c94, cs95, v97, H81, rfl, le82, hO.pick _ ⟨rfl, rfl, rfl, trivial⟩, h88, h92, h96⟩
       ·intro r w
        rintro ⟨v204, cs205, A207, c208, cs209, A211, c212, cs213, v215, H202, rfl, le203, hO, h206, h210, h214⟩
        dsimp only at hm0
        refine seq (region ?_)
        obtain ⟨t217, ht218, hm0⟩ := bindSome hm0
        refine o_call hO go10 (switchboardlaw19_awake_ok hO.sub  ht218) rfl ?_
        rintro _ H219 w220 le221 rfl hO
        refine val (x_assign (.bool t217) rfl) ?_
        refine nil (W.ret ?_)
        obtain rfl := sj hm0
        exact ⟨H219, rfl, hO.done⟩
end Go.Sw

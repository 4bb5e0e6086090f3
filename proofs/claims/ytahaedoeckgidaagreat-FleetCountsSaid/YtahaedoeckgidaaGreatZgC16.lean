/- The calls compute the mirrors. -/
import Derived.Test.YtahaedoeckgidaaGreatZgF
import Derived.Test.YtahaedoeckgidaaGreatZgC0
import Derived.Test.YtahaedoeckgidaaGreatZgC1
import Derived.Test.YtahaedoeckgidaaGreatZgC8
import Derived.Test.YtahaedoeckgidaaGreatZgC11
import Derived.Test.YtahaedoeckgidaaGreatZgC12
import Derived.Test.YtahaedoeckgidaaGreatZgC14
import Derived.Test.YtahaedoeckgidaaGreatZgC15
set_option linter.unusedVariables false
set_option linter.unusedSimpArgs false
set_option maxRecDepth 100000
namespace Go.Sw
open WL (val nil gval yes no)
open W (region test seq skip)
open WA (take)
open Go.Proofs.Tryz
open Go.Proofs
theorem switchboardlaw19_FleetCounts_ok {w0 : World} {H0 : IHeap} (hS : Sub H0 w0) {p0 : ApiModel} {p1 : PlaceMap} {p2 : List (List Int)}  {A1_ : Option Addr} {c1_ : Nat} {A2_ : Option Addr} {c2_ : Nat} {A3_ : Option Addr} {c3_ : Nat} (h1_ : RS eApiLayer H0 A1_ c1_ p0.Layers) (h2_ : RS (eSl (eInt .i64)) H0 A2_ c2_ p1.Holders) (h3_ : RS (eSl (eInt .i64)) H0 A3_ c3_ p2) {res : Bool} (hm0 : switchboardlaw19_FleetCounts p0 p1 p2 = some res) :
  Ok prog 3 [(.agg #[(.int .i64 p0.Dim), (.slice A1_ p0.Layers.length c1_)]), (.agg #[(.int .i64 p1.Epoch), (.slice A2_ p1.Holders.length c2_)]), (.slice A3_ p2.length c3_)].toArray w0 H0 (fun H' v => v = (.bool res)) := by
 unfold switchboardlaw19_FleetCounts at hm0
 refine ok_of_W Tryz.func3 rfl Tryz.ntmps3 (ts := [6]) rfl rfl rfl ?_
 have hO := St.start hS
 refine seq (region (o_box 0 [(.int .i64 p0.Dim), (.slice A1_ p0.Layers.length c1_)] hO rfl ?_))
 intro g1 w2 hO
 refine o_box 1 [(.int .i64 p1.Epoch), (.slice A2_ p1.Holders.length c2_)] hO rfl ?_
 intro g3 w4 hO
 refine val (x_assign (.bool false) rfl) ?_
 refine nil (seq (seq (region (val (x_lds 0 [(.int .i64 p0.Dim), (.slice A1_ p0.Layers.length c1_)] hO rfl rfl agg24 rfl rfl) ?_))))
 obtain ⟨t5, ht6, hm0⟩ := bindSome hm0
 refine o_call hO go7 (switchboardref15_Small_ok hO.sub h1_ ht6) rfl ?_
 rintro _ H7 w8 le9 rfl hO
 refine val (x_not rfl) ?_
 refine val (x_move (.bool (!t5)) rfl) ?_
 refine gval rfl rfl (fun hb => x_fa rfl fo27_1) ?_
 refine gval rfl rfl (fun hb => x_ld 1 (.slice A2_ p1.Holders.length c2_) hO rfl (gv hb) rfl one25) ?_
 rcases btest hm0 with ⟨hb10, hm0⟩ | ⟨hb10, hm0⟩
 ·refine no rfl (kb rfl hb10) rfl ?_
  refine no rfl (kb rfl hb10) rfl ?_
  refine val (x_pick_t (kb rfl hb10) (.bool true) rfl) ?_
  refine val (x_move (.bool true) rfl) ?_
  refine no rfl rfl rfl ?_
  refine no rfl rfl rfl ?_
  refine no rfl rfl rfl ?_
  refine val (x_pick_t rfl (.bool true) rfl) ?_
  refine val (x_move (.bool true) rfl) ?_
  refine no rfl rfl rfl ?_
  refine no rfl rfl rfl ?_
  refine no rfl rfl rfl ?_
  refine no rfl rfl rfl ?_
  refine no rfl rfl rfl ?_
  refine val (x_pick_t rfl (.bool true) rfl) ?_
  refine nil (W.cond_t rfl ?_)
  refine seq (region ?_)
  obtain ⟨t11, ht12, hm0⟩ := bindSome hm0
  refine o_call hO go10 (switchboardlaw19_awake_ok hO.sub  ht12) rfl ?_
  rintro _ H13 w14 le15 rfl hO
  refine val (x_assign (.bool t11) rfl) ?_
  refine nil (W.ret ?_)
  obtain rfl := sj hm0
  exact ⟨H13, rfl, hO.done⟩
 ·refine yes rfl (kb rfl hb10) ?_
  obtain ⟨t16, ht17, hm0⟩ := bindSome hm0
  refine o_call hO go8 (switchboardref03_Small_ok hO.sub (h2_.up le9) ht17) (args1 (by exact gkF hb10)) ?_
  rintro _ H18 w19 le20 rfl hO
  refine yes rfl (kb rfl hb10) ?_
  refine val (x_not rfl) ?_
  refine val (x_pick_f (kb rfl hb10) (.bool (!t16)) rfl) ?_
  refine val (x_move (.bool (!t16)) rfl) ?_
  refine gval rfl rfl (fun hb => x_move (.slice A3_ p2.length c3_) rfl) ?_
  rcases btest hm0 with ⟨hb21, hm0⟩ | ⟨hb21, hm0⟩
  ·refine no rfl (kb rfl hb21) rfl ?_
   refine no rfl (kb rfl hb21) rfl ?_
   refine val (x_pick_t (kb rfl hb21) (.bool true) rfl) ?_
   refine val (x_move (.bool true) rfl) ?_
   refine no rfl rfl rfl ?_
   refine no rfl rfl rfl ?_
   refine no rfl rfl rfl ?_
   refine no rfl rfl rfl ?_
   refine no rfl rfl rfl ?_
   refine val (x_pick_t rfl (.bool true) rfl) ?_
   refine nil (W.cond_t rfl ?_)
   refine seq (region ?_)
   obtain ⟨t22, ht23, hm0⟩ := bindSome hm0
   refine o_call hO go10 (switchboardlaw19_awake_ok hO.sub  ht23) rfl ?_
   rintro _ H24 w25 le26 rfl hO
   refine val (x_assign (.bool t22) rfl) ?_
   refine nil (W.ret ?_)
   obtain rfl := sj hm0
   exact ⟨H24, rfl, hO.done⟩
  ·refine yes rfl (kb rfl hb21) ?_
   obtain ⟨t27, ht28, hm0⟩ := bindSome hm0
   refine o_call hO go8 (switchboardref03_Small_ok hO.sub (h3_.up (le9.trans le20)) ht28) (args1 (by exact gkF hb21)) ?_
   rintro _ H29 w30 le31 rfl hO
   refine yes rfl (kb rfl hb21) ?_
   refine val (x_not rfl) ?_
   refine val (x_pick_f (kb rfl hb21) (.bool (!t27)) rfl) ?_
   refine val (x_move (.bool (!t27)) rfl) ?_
   refine gval rfl rfl (fun hb => x_lds 0 [(.int .i64 p0.Dim), (.slice A1_ p0.Layers.length c1_)] hO rfl rfl agg24 rfl rfl) ?_
   refine gval rfl rfl (fun hb => x_lds 1 [(.int .i64 p1.Epoch), (.slice A2_ p1.Holders.length c2_)] hO rfl rfl agg27 rfl rfl) ?_
   refine gval rfl rfl (fun hb => x_move (.slice A3_ p2.length c3_) rfl) ?_
   rcases btest hm0 with ⟨hb32, hm0⟩ | ⟨hb32, hm0⟩
   ·refine no rfl (kb rfl hb32) rfl ?_
    refine no rfl (kb rfl hb32) rfl ?_
    refine val (x_pick_t (kb rfl hb32) (.bool true) rfl) ?_
    refine nil (W.cond_t rfl ?_)
    refine seq (region ?_)
    obtain ⟨t33, ht34, hm0⟩ := bindSome hm0
    refine o_call hO go10 (switchboardlaw19_awake_ok hO.sub  ht34) rfl ?_
    rintro _ H35 w36 le37 rfl hO
    refine val (x_assign (.bool t33) rfl) ?_
    refine nil (W.ret ?_)
    obtain rfl := sj hm0
    exact ⟨H35, rfl, hO.done⟩
   ·refine yes rfl (kb rfl hb32) ?_
    obtain ⟨t38, ht39, hm0⟩ := bindSome hm0
    refine o_call hO go9 (switchboardref19_May_ok hO.sub (h1_.up (le9.trans (le20.trans le31))) (h2_.up (le9.trans (le20.trans le31))) (h3_.up (le9.trans (le20.trans le31))) ht39) (args3 (by exact gkF hb32) (by exact gkF hb32) (by exact gkF hb32)) ?_
    rintro _ H40 w41 le42 rfl hO
    refine yes rfl (kb rfl hb32) ?_
    refine val (x_not rfl) ?_
    refine val (x_pick_f (kb rfl hb32) (.bool (!t38)) rfl) ?_
    refine nil (test rfl hm0 ?_ ?_)
    ·intro hb43 hm0
     refine seq (region ?_)
     obtain ⟨t44, ht45, hm0⟩ := bindSome hm0
     refine o_call hO go10 (switchboardlaw19_awake_ok hO.sub  ht45) rfl ?_
     rintro _ H46 w47 le48 rfl hO
     refine val (x_assign (.bool t44) rfl) ?_
     refine nil (W.ret ?_)
     obtain rfl := sj hm0
     exact ⟨H46, rfl, hO.done⟩
    ·intro hb43 hm0
     refine skip (seq (region (val (x_lds 0 [(.int .i64 p0.Dim), (.slice A1_ p0.Layers.length c1_)] hO rfl rfl agg24 rfl rfl) ?_)))
     refine val (x_lds 1 [(.int .i64 p1.Epoch), (.slice A2_ p1.Holders.length c2_)] hO rfl rfl agg27 rfl rfl) ?_
     refine val (x_move (.slice A3_ p2.length c3_) rfl) ?_
     obtain ⟨t49, ht50, hm0⟩ := bindSome hm0
     refine o_callO hO go11 (fleet_New_ok hO.sub (h1_.up (le9.trans (le20.trans (le31.trans le42)))) (h2_.up (le9.trans (le20.trans (le31.trans le42)))) (h3_.up (le9.trans (le20.trans (le31.trans le42)))) ht50) rfl ?_
     rintro _ H51 O54 w52 le53 (⟨he55, rfl⟩ | ⟨x56, g57, cs58, A60, c61, cs62, A64, c65, cs66, he55, rfl, h59, h63, h67, hk68, hk69, hk70⟩) hO'
     ·have hO := hO.call hO'.done; clear hO'
      rw [he55] at hm0; dsimp only at hm0
      refine val (x_move (.tuple #[(.pointer none), (.int .i64 t49.2)]) rfl) ?_
      refine val (x_extract (.pointer none) rfl rfl) ?_
      refine val (x_extract (.int .i64 t49.2) rfl rfl) ?_
      refine val (x_assign (.pointer none) rfl) ?_
      refine val (x_assign (.int .i64 t49.2) rfl) ?_
      refine nil (seq (seq (region (val (x_move (.pointer none) rfl) ?_))))
      refine val (x_eqpn underlying33 rfl rfl) ?_
      refine nil (W.cond_t rfl ?_)
      refine seq (region (val (x_assign (.bool false) rfl) ?_))
      refine nil (W.ret ?_)
      obtain rfl := sj hm0
      exact ⟨H51, rfl, hO.done⟩
     ·have hO := hO.callB hO' 2 [.blk g57 cs58 93, .row A60 c61 61 (eSl (eInt .i64)).size x56.answers.length cs62, .row A64 c65 4 eBool.size x56.answered.length cs66] ⟨hk68, hk69, hk70, trivial⟩; clear hO'
      rw [he55] at hm0; dsimp only at hm0
      refine val (x_move (.tuple #[(.pointer (some ⟨g57, 0, none⟩)), (.int .i64 t49.2)]) rfl) ?_
      refine val (x_extract (.pointer (some ⟨g57, 0, none⟩)) rfl rfl) ?_
      refine val (x_extract (.int .i64 t49.2) rfl rfl) ?_
      refine val (x_assign (.pointer (some ⟨g57, 0, none⟩)) rfl) ?_
      refine val (x_assign (.int .i64 t49.2) rfl) ?_
      refine nil (seq (seq (region (val (x_move (.pointer (some ⟨g57, 0, none⟩)) rfl) ?_))))
      refine val (x_eqpn underlying33 rfl rfl) ?_
      refine nil (W.cond_f rfl ?_)
      refine skip (seq (region (val (x_move (.slice A3_ p2.length c3_) rfl) ?_)))
      refine val (x_assign (.int .i64 0) rfl) ?_
      refine val (x_assign (.slice A3_ p2.length c3_) rfl) ?_
      refine nil (seq (seq (region (val (x_fa rfl fo24_1) ?_))))
      refine val (x_ld 0 (.slice A1_ p0.Layers.length c1_) hO rfl rfl rfl one22) ?_
      refine val (x_len rfl underlying22) ?_
      refine val (x_move (.int .i64 0) rfl) ?_
      refine nil ?_
      obtain ⟨o71, hm1, hm0⟩ := bindSome hm0
      have hO := hO.pick [(0, .blk g1 [(.int .i64 p0.Dim), (.slice A1_ p0.Layers.length c1_)] 24), (2, .blk g57 cs58 93), (3, .row A60 c61 61 (eSl (eInt .i64)).size x56.answers.length cs62), (4, .row A64 c65 4 eBool.size x56.answered.length cs66)] ⟨rfl, rfl, rfl, rfl, trivial⟩
      refine W.blockLoop (fun r w => ∃ (v77 : Int) (v78 : List (List Int)) (A79 : Option Addr) (c80 : Nat) (i74 : Nat) (H72 : IHeap), (v77, v78) = o71 ∧ Le H51 H72 ∧ St w0 H0 [] H72 (ol [(0, .blk g1 [(.int .i64 p0.Dim), (.slice A1_ p0.Layers.length c1_)] 24), (2, .blk g57 cs58 93), (3, .row A60 c61 61 (eSl (eInt .i64)).size x56.answers.length cs62), (4, .row A64 c65 4 eBool.size x56.answered.length cs66)]) w ∧ r 7 = (.pointer (some ⟨g57, 0, none⟩)) ∧ r 9 = (.int .i64 v77) ∧ r 10 = (.slice A79 v78.length c80) ∧ RS (eSl (eInt .i64)) H72 A79 c80 v78) (fun k r w => ∃ (i74 : Nat) (rest75 : List ApiLayer) (v77 : Int) (v78 : List (List Int)) (A79 : Option Addr) (c80 : Nat) (H72 : IHeap), k = rest75.length ∧ List.drop i74 p0.Layers = rest75 ∧ switchboardlaw19_FleetCounts_l1 p0 rest75 i74 v77 v78 = some o71 ∧ Le H51 H72 ∧ St w0 H0 [] H72 (ol [(0, .blk g1 [(.int .i64 p0.Dim), (.slice A1_ p0.Layers.length c1_)] 24), (2, .blk g57 cs58 93), (3, .row A60 c61 61 (eSl (eInt .i64)).size x56.answers.length cs62), (4, .row A64 c65 4 eBool.size x56.answered.length cs66)]) w ∧ r 3 = (.pointer (some ⟨g1, 0, none⟩)) ∧ r 7 = (.pointer (some ⟨g57, 0, none⟩)) ∧ r 9 = (.int .i64 v77) ∧ r 10 = (.slice A79 v78.length c80) ∧ r 49 = (.int .i64 (p0.Layers.length : Int)) ∧ r 50 = (.int .i64 (i74 : Int)) ∧ RS (eSl (eInt .i64)) H72 A79 c80 v78) (List.length p0.Layers) ?_ ?_ ?_
      ·exact ⟨0, _, 0, p2, A3_, c3_, _, rfl, rfl, hm1, Le.refl _, hO, rfl, rfl, rfl, rfl, rfl, rfl, (h3_.up (le9.trans (le20.trans (le31.trans (le42.trans le53)))))⟩
      ·
       intro k r w
       rintro ⟨i74, rest75, v77, v78, A79, c80, H72, rfl, hd82, hm1, le73, hO, f3_1, f7_1, f9_1, f10_1, f49_1, f50_1, h81⟩
       cases rest75 with
       | nil =>
        rw [switchboardlaw19_FleetCounts_l1] at hm1
        have hlt := drop_nil hd82
        refine seq (region (val (x_lss f50_1 f49_1) ?_))
        refine nil (seq (W.cond_f (kb rfl hlt) ?_))
        refine W.exit _ rfl ?_
        obtain rfl := sj hm1
        exact ⟨v77, v78, A79, c80, i74, H72, rfl, le73, hO.pick _ ⟨rfl, rfl, rfl, rfl, trivial⟩, f7_1, f9_1, f10_1, h81⟩
       | cons x76 rest75 =>
        rw [switchboardlaw19_FleetCounts_l1] at hm1
        have hlt := drop_lt hd82
        have hnx := drop_next hd82
        have hinc := inc_len hlt (h1_.up (le9.trans (le20.trans (le31.trans (le42.trans le53))))).1 (h1_.up (le9.trans (le20.trans (le31.trans (le42.trans le53))))).2.1
        refine seq (region (val (x_lss f50_1 f49_1) ?_))
        refine nil (seq (W.cond_t (kb rfl hlt) ?_))
        refine skip (seq (W.block ?_))
        refine seq (region (val (x_move (.int .i64 (i74 : Int)) f50_1) ?_))
        refine val (x_assign (.int .i64 (i74 : Int)) rfl) ?_
        refine nil (seq (region (val (x_move (.int .i64 v77) f9_1) ?_)))
        refine val (x_fa f3_1 fo24_1) ?_
        refine val (x_ld 0 (.slice A1_ p0.Layers.length c1_) hO rfl rfl rfl one22) ?_
        refine val (x_move (.int .i64 (i74 : Int)) rfl) ?_
        obtain ⟨a83, h84, hA85, hin⟩ := RS.atR (h1_.up (le9.trans (le20.trans (le31.trans (le42.trans (le53.trans le73)))))) hd82
        refine val (x_ia (sA rfl hA85) rfl sle22 hin) ?_
        obtain ⟨cs86, hr87, hc88⟩ := At.agg h84
        obtain ⟨A89, c90, A92, c93, rfl, h91, h94⟩ := hr87
        refine val (x_ldv rfl (hc88 _ _ _ hO.sub agg41)) ?_
        refine val (x_move (.slice A79 v78.length c80) f10_1) ?_
        obtain ⟨t95, ht96, hm1⟩ := bindSome hm1
        refine o_call hO go12 (switchboardref15_Parts_ok hO.sub h91 h94 h81 ht96) rfl ?_
        rintro _ H97 w98 le99 ⟨A100, c101, rfl, h102⟩ hO
        refine val (x_len rfl underlying37) ?_
        refine val (x_add rfl rfl) ?_
        refine val (x_assign (.int .i64 (i64w (v77 + (t95.length : Int)))) rfl) ?_
        refine nil ?_
        have hO := hO.pick [(0, .blk g1 [(.int .i64 p0.Dim), (.slice A1_ p0.Layers.length c1_)] 24), (2, .blk g57 cs58 93), (3, .row A60 c61 61 (eSl (eInt .i64)).size x56.answers.length cs62), (4, .row A64 c65 4 eBool.size x56.answered.length cs66)] ⟨rfl, rfl, rfl, rfl, trivial⟩
        refine W.draw (SD w0 H0 [] H97 [(0, .blk g1 [(.int .i64 p0.Dim), (.slice A1_ p0.Layers.length c1_)] 24), (2, .blk g57 cs58 93)]) (fun i => ([] : List Nat).contains i) mixed 12 rfl _ rfl ?_
        intro w103 hh1 hh2 hh3 hh4; have hO := hO.same hh1 hh2 hh3 hh4; clear hh1 hh2 hh3 hh4
        have hS : SD w0 H0 [] H97 [(0, .blk g1 [(.int .i64 p0.Dim), (.slice A1_ p0.Layers.length c1_)] 24), (2, .blk g57 cs58 93)] w103 := ⟨_, _, Le.refl _, hO, ⟨rfl, rfl, trivial⟩⟩
        refine take (i := 0) rfl (by kernel_rfl) (fun w hS => x_fa f3_1 fo24_0) hS ?_
        refine take (i := 1) rfl (by kernel_rfl) (fun w hS => x_ldD 0 (.int .i64 p0.Dim) hS rfl rfl rfl one3) hS ?_
        refine take (i := 2) rfl (by kernel_rfl) (fun w hS => x_fa f3_1 fo24_1) hS ?_
        refine take (i := 3) rfl (by kernel_rfl) (fun w hS => x_ldD 0 (.slice A1_ p0.Layers.length c1_) hS rfl rfl rfl one22) hS ?_
        refine take (i := 4) rfl (by kernel_rfl) (fun w hS => x_move (.int .i64 (i74 : Int)) rfl) hS ?_
        refine take (i := 5) rfl (by kernel_rfl) (fun w hS => x_move (.int .i64 (i74 : Int)) rfl) hS ?_
        refine take (i := 6) rfl (by kernel_rfl) (fun w hS => x_add rfl rfl) hS ?_
        obtain ⟨hok104, hm1⟩ := chk hm1
        refine take (i := 7) rfl (by kernel_rfl) (fun w hS => x_sllh (xs := p0.Layers) sle22 rfl (h1_.up (le9.trans (le20.trans (le31.trans (le42.trans (le53.trans (le73.trans le99))))))).1 rfl rfl hok104) hS ?_
        refine take (i := 8) rfl (by kernel_rfl) (fun w hS => x_build [(0, (.int .i64 p0.Dim)), (1, (.slice (sufA A1_ ((i74 : Int) : Int).toNat eApiLayer.size c1_) (lcut p0.Layers (i74 : Int) (i64w ((i74 : Int) + 1))).length (c1_ - ((i74 : Int) : Int).toNat)))] [(.int .i64 p0.Dim), (.slice (sufA A1_ ((i74 : Int) : Int).toNat eApiLayer.size c1_) (lcut p0.Layers (i74 : Int) (i64w ((i74 : Int) + 1))).length (c1_ - ((i74 : Int) : Int).toNat))] ⟨rfl, rfl, rfl, rfl, trivial⟩ (by kernel_rfl)) hS ?_
        refine take (i := 9) rfl (by kernel_rfl) (fun w hS => x_move (.slice A79 v78.length c80) f10_1) hS ?_
        refine WA.only (i := 10) (by kernel_rfl) rfl ?_
        obtain ⟨t105, ht106, hm1⟩ := bindSome hm1
        refine o_call hO go13 (switchboardref15_Forward_ok hO.sub (RS.cut (h1_.up (le9.trans (le20.trans (le31.trans (le42.trans (le53.trans (le73.trans le99))))))) hok104) (h81.up le99) ht106) rfl ?_
        rintro _ H107 w108 le109 ⟨A110, c111, rfl, h112⟩ hO
        have hS : SD w0 H0 [] H97 [(0, .blk g1 [(.int .i64 p0.Dim), (.slice A1_ p0.Layers.length c1_)] 24), (2, .blk g57 cs58 93)] _ := ⟨_, _, le109, hO, ⟨rfl, rfl, trivial⟩⟩
        refine nil ⟨fun _ => hS, ?_⟩
        refine take (i := 11) rfl (by kernel_rfl) (fun w hS => x_assign (.slice A110 t105.length c111) rfl) hS ?_
        refine WA.done (by kernel_rfl) ?_
        refine region (val (x_add f50_1 rfl) ?_)
        refine val (x_move (.int .i64 (i64w ((i74 : Int) + 1))) rfl) ?_
        refine nil ?_
        exact ⟨_, Nat.lt_succ_self _, i74 + 1, rest75, i64w (v77 + (t95.length : Int)), t105, A110, c111, H107, rfl, hnx, hm1, (le73.trans (le99.trans le109)), hO.pick _ ⟨rfl, rfl, rfl, rfl, trivial⟩, f3_1, f7_1, rfl, rfl, f49_1, (incv hinc), h112⟩
      ·intro r w
       rintro ⟨v115, v116, A117, c118, i120, H113, rfl, le114, hO, f121, f122, f123, h119⟩
       dsimp only at hm0
       refine seq (region (val (x_assign (.int .i64 0) rfl) ?_))
       refine nil (seq ?_)
       obtain ⟨o124, hm1, hm0⟩ := bindSome hm0
       have hO := hO.pick [(2, .blk g57 cs58 93), (3, .row A60 c61 61 (eSl (eInt .i64)).size x56.answers.length cs62), (4, .row A64 c65 4 eBool.size x56.answered.length cs66)] ⟨rfl, rfl, rfl, trivial⟩
       refine W.blockLoop (fun r w => ∃ (v130 : FleetFleet) (cs131 : List Value) (A133 : Option Addr) (c134 : Nat) (cs135 : List Value) (A137 : Option Addr) (c138 : Nat) (cs139 : List Value) (v141 : Int) (H125 : IHeap), (v130, v141) = o124 ∧ Le H113 H125 ∧ St w0 H0 [] H125 (ol [(2, .blk g57 cs131 93), (3, .row A133 c134 61 (eSl (eInt .i64)).size v130.answers.length cs135), (4, .row A137 c138 4 eBool.size v130.answered.length cs139)]) w ∧ r 7 = (.pointer (some ⟨g57, 0, none⟩)) ∧ r 9 = (.int .i64 v115) ∧ r 10 = (.slice A117 v116.length c118) ∧ r 12 = (.int .i64 v141) ∧ Enc.rep (eFleetFleet (.slice A133 v130.answers.length c134) (.slice A137 v130.answered.length c138)) H125 cs131 v130 ∧ Rows (eSl (eInt .i64)) H125 cs135 v130.answers ∧ Rows eBool H125 cs139 v130.answered) (fun k r w => ∃ (rest128 : Nat) (v130 : FleetFleet) (cs131 : List Value) (A133 : Option Addr) (c134 : Nat) (cs135 : List Value) (A137 : Option Addr) (c138 : Nat) (cs139 : List Value) (v141 : Int) (H125 : IHeap), rest128 = k ∧ switchboardlaw19_FleetCounts_l2 rest128 v130 v141 = some o124 ∧ Le H113 H125 ∧ St w0 H0 [] H125 (ol [(2, .blk g57 cs131 93), (3, .row A133 c134 61 (eSl (eInt .i64)).size v130.answers.length cs135), (4, .row A137 c138 4 eBool.size v130.answered.length cs139)]) w ∧ r 7 = (.pointer (some ⟨g57, 0, none⟩)) ∧ r 9 = (.int .i64 v115) ∧ r 10 = (.slice A117 v116.length c118) ∧ r 12 = (.int .i64 v141) ∧ Enc.rep (eFleetFleet (.slice A133 v130.answers.length c134) (.slice A137 v130.answered.length c138)) H125 cs131 v130 ∧ Rows (eSl (eInt .i64)) H125 cs135 v130.answers ∧ Rows eBool H125 cs139 v130.answered) FUEL ?_ ?_ ?_
       ·exact ⟨_, x56, cs58, A60, c61, cs62, A64, c65, cs66, 0, _, rfl, hm1, Le.refl _, hO, f121, f122, f123, rfl, (Enc.mono _ le114 h59), (h63.up le114), (h67.up le114)⟩
       ·
        intro k r w
        rintro ⟨rest128, v130, cs131, A133, c134, cs135, A137, c138, cs139, v141, H125, rfl, hm1, le126, hO, f7_2, f9_2, f10_2, f12_2, h132, h136, h140⟩
        cases rest128 with
        | zero => rw [switchboardlaw19_FleetCounts_l2] at hm1; cases hm1
        | succ rest128 =>
         rw [switchboardlaw19_FleetCounts_l2] at hm1
         refine seq (seq (region (val (x_move (.int .i64 v141) f12_2) ?_)))
         refine val (x_lss rfl rfl) ?_
         refine val (x_move (.bool (decide (v141 < 1000))) rfl) ?_
         refine gval rfl rfl (fun hb => x_move (.pointer (some ⟨g57, 0, none⟩)) f7_2) ?_
         rcases btest hm1 with ⟨hb142, hm1⟩ | ⟨hb142, hm1⟩
         ·refine yes rfl (kb rfl hb142) ?_
          obtain ⟨t143, ht144, hm1⟩ := bindSome hm1
          refine o_callL (args := [(.pointer (some ⟨g57, 0, none⟩)), (.int .i64 0)]) [(2, .blk g57 cs131 93), (3, .row A133 c134 61 (eSl (eInt .i64)).size v130.answers.length cs135), (4, .row A137 c138 4 eBool.size v130.answered.length cs139)] hO ⟨rfl, rfl, rfl, trivial⟩ (names_nd (ns := [2, 3, 4]) rfl (by decide)) go14 (fleet_Fleet_Deliver_ok (p0 := v130) (p1 := 0) (hO.enterL [(2, .blk g57 cs131 93), (3, .row A133 c134 61 (eSl (eInt .i64)).size v130.answers.length cs135), (4, .row A137 c138 4 eBool.size v130.answered.length cs139)] ⟨rfl, rfl, rfl, trivial⟩ (names_nd (ns := [2, 3, 4]) rfl (by decide))) h132 h136 h140 ht144) (args2 (by exact gkT hb142) rfl) ?_
          rintro _ H145 O148 w146 le147 ⟨cs149, A152, c153, cs154, A157, c158, cs159, rfl, h150, h155, h160, hk151, hk156, hk161⟩ hO
          have hO := hO.named [.blk g57 cs149 93, .row A152 c153 61 (eSl (eInt .i64)).size t143.1.answers.length cs154, .row A157 c158 4 eBool.size t143.1.answered.length cs159] ⟨hk151, hk156, hk161, trivial⟩
          refine yes rfl (kb rfl hb142) ?_
          refine val (x_eql rfl rfl) ?_
          refine val (x_pick_t (kb rfl hb142) (.bool (t143.2 == 0)) rfl) ?_
          refine nil (test rfl hm1 ?_ ?_)
          ·intro hb162 hm1
           refine skip (W.block ?_)
           refine region (val (x_move (.int .i64 v141) f12_2) ?_)
           refine val (x_add rfl rfl) ?_
           refine val (x_assign (.int .i64 (i64w (v141 + 1))) rfl) ?_
           refine nil ?_
           exact ⟨_, Nat.lt_succ_self _, rest128, t143.1, cs149, A152, c153, cs154, A157, c158, cs159, i64w (v141 + 1), H145, rfl, hm1, (le126.trans le147), hO.pick _ ⟨rfl, rfl, rfl, trivial⟩, f7_2, f9_2, f10_2, rfl, h150, h155, h160⟩
          ·intro hb162 hm1
           refine W.exit _ rfl ?_
           obtain rfl := sj hm1
           exact ⟨t143.1, cs149, A152, c153, cs154, A157, c158, cs159, v141, H145, rfl, (le126.trans le147), hO.pick _ ⟨rfl, rfl, rfl, trivial⟩, f7_2, f9_2, f10_2, f12_2, h150, h155, h160⟩
         ·refine no rfl (kb rfl hb142) rfl ?_
          refine no rfl (kb rfl hb142) rfl ?_
          refine val (x_pick_f (kb rfl hb142) (.bool false) rfl) ?_
          refine nil (W.cond_f rfl ?_)
          refine W.exit _ rfl ?_
          obtain rfl := sj hm1
          exact ⟨v130, cs131, A133, c134, cs135, A137, c138, cs139, v141, H125, rfl, le126, hO.pick _ ⟨rfl, rfl, rfl, trivial⟩, f7_2, f9_2, f10_2, f12_2, h132, h136, h140⟩
       ·intro r w
        rintro ⟨v165, cs166, A168, c169, cs170, A172, c173, cs174, v176, H163, rfl, le164, hO, f178, f179, f180, f181, h167, h171, h175⟩
        dsimp only at hm0
        refine seq (region (val (x_move (.pointer (some ⟨g57, 0, none⟩)) f178) ?_))
        obtain ⟨t182, ht183, hm0⟩ := bindSome hm0
        refine o_callL (args := [(.pointer (some ⟨g57, 0, none⟩))]) [(2, .blk g57 cs166 93), (3, .row A168 c169 61 (eSl (eInt .i64)).size v165.answers.length cs170), (4, .row A172 c173 4 eBool.size v165.answered.length cs174)] hO ⟨rfl, rfl, rfl, trivial⟩ (names_nd (ns := [2, 3, 4]) rfl (by decide)) go15 (fleet_Fleet_Done_ok (p0 := v165) (hO.enterL [(2, .blk g57 cs166 93), (3, .row A168 c169 61 (eSl (eInt .i64)).size v165.answers.length cs170), (4, .row A172 c173 4 eBool.size v165.answered.length cs174)] ⟨rfl, rfl, rfl, trivial⟩ (names_nd (ns := [2, 3, 4]) rfl (by decide))) h167 h171 h175 ht183) rfl ?_
        rintro _ H184 O187 w185 le186 ⟨cs188, A191, c192, cs193, A196, c197, cs198, A201, c202, rfl, h189, h194, h199, h203, hk190, hk195, hk200⟩ hO
        have hO := hO.named [.blk g57 cs188 93, .row A191 c192 61 (eSl (eInt .i64)).size t182.1.answers.length cs193, .row A196 c197 4 eBool.size t182.1.answered.length cs198] ⟨hk190, hk195, hk200, trivial⟩
        refine val (x_move (.tuple #[(.slice A201 t182.2.1.length c202), (.bool t182.2.2)]) rfl) ?_
        refine val (x_extract (.slice A201 t182.2.1.length c202) rfl rfl) ?_
        refine val (x_extract (.bool t182.2.2) rfl rfl) ?_
        refine val (x_assign (.slice A201 t182.2.1.length c202) rfl) ?_
        refine val (x_assign (.bool t182.2.2) rfl) ?_
        refine nil (seq (region (val (x_move (.bool t182.2.2) rfl) ?_)))
        refine val (x_move (.bool t182.2.2) rfl) ?_
        refine gval rfl rfl (fun hb => x_move (.slice A201 t182.2.1.length c202) rfl) ?_
        refine gval rfl rfl (fun hb => x_move (.slice A117 v116.length c118) f180) ?_
        rcases btest hm0 with ⟨hb204, hm0⟩ | ⟨hb204, hm0⟩
        ·refine yes rfl (kb rfl hb204) ?_
         obtain ⟨t205, ht206, hm0⟩ := bindSome hm0
         refine o_call hO go16 (switchboardref15_Same_ok hO.sub h203 (h119.up (le164.trans le186)) ht206) (args2 (by exact gkT hb204) (by exact gkT hb204)) ?_
         rintro _ H207 w208 le209 rfl hO
         refine val (x_pick_t (kb rfl hb204) (.bool t205) rfl) ?_
         refine val (x_move (.bool t205) rfl) ?_
         refine gval rfl rfl (fun hb => x_move (.pointer (some ⟨g57, 0, none⟩)) f178) ?_
         rcases btest hm0 with ⟨hb210, hm0⟩ | ⟨hb210, hm0⟩
         ·refine yes rfl (kb rfl hb210) ?_
          obtain ⟨t211, ht212, hm0⟩ := bindSome hm0
          refine o_callL (args := [(.pointer (some ⟨g57, 0, none⟩))]) [(2, .blk g57 cs188 93), (3, .row A191 c192 61 (eSl (eInt .i64)).size t182.1.answers.length cs193), (4, .row A196 c197 4 eBool.size t182.1.answered.length cs198)] hO ⟨rfl, rfl, rfl, trivial⟩ (names_nd (ns := [2, 3, 4]) rfl (by decide)) go17 (fleet_Fleet_Worked_ok (p0 := t182.1) (hO.enterL [(2, .blk g57 cs188 93), (3, .row A191 c192 61 (eSl (eInt .i64)).size t182.1.answers.length cs193), (4, .row A196 c197 4 eBool.size t182.1.answered.length cs198)] ⟨rfl, rfl, rfl, trivial⟩ (names_nd (ns := [2, 3, 4]) rfl (by decide))) (Enc.mono _ le209 h189) (h194.up le209) (h199.up le209) ht212) (args1 (by exact gkT hb210)) ?_
          rintro _ H213 O216 w214 le215 ⟨cs217, A220, c221, cs222, A225, c226, cs227, rfl, h218, h223, h228, hk219, hk224, hk229⟩ hO
          have hO := hO.named [.blk g57 cs217 93, .row A220 c221 61 (eSl (eInt .i64)).size t211.1.answers.length cs222, .row A225 c226 4 eBool.size t211.1.answered.length cs227] ⟨hk219, hk224, hk229, trivial⟩
          refine yes rfl (kb rfl hb210) ?_
          refine val (x_move (.int .i64 v115) f179) ?_
          refine yes rfl (kb rfl hb210) ?_
          refine val (x_eql rfl rfl) ?_
          refine val (x_pick_t (kb rfl hb210) (.bool (t211.2 == v115)) rfl) ?_
          refine val (x_move (.bool (t211.2 == v115)) rfl) ?_
          refine gval rfl rfl (fun hb => x_move (.int .i64 v176) f181) ?_
          refine gval rfl rfl (fun hb => x_move (.int .i64 v115) f179) ?_
          refine gval rfl rfl (fun hb => x_mul rfl (gv hb)) ?_
          refine gval rfl rfl (fun hb => x_eql (gv hb) (gv hb)) ?_
          refine val (x_pick rfl (.bool ((t211.2 == v115) && (v176 == (i64w (2 * v115))))) pick_and) ?_
          refine val (x_move (.bool ((t211.2 == v115) && (v176 == (i64w (2 * v115))))) rfl) ?_
          rcases btest hm0 with ⟨hb230, hm0⟩ | ⟨hb230, hm0⟩
          ·refine yes rfl (kb rfl hb230) ?_
           obtain ⟨t231, ht232, hm0⟩ := bindSome hm0
           refine o_call hO go10 (switchboardlaw19_awake_ok hO.sub  ht232) rfl ?_
           rintro _ H233 w234 le235 rfl hO
           refine val (x_pick_t (kb rfl hb230) (.bool t231) rfl) ?_
           refine val (x_assign (.bool t231) rfl) ?_
           refine nil (W.ret ?_)
           obtain rfl := sj hm0
           exact ⟨H233, rfl, hO.done⟩
          ·refine no rfl (kb rfl hb230) rfl ?_
           refine val (x_pick_f (kb rfl hb230) (.bool false) rfl) ?_
           refine val (x_assign (.bool false) rfl) ?_
           refine nil (W.ret ?_)
           obtain rfl := sj hm0
           exact ⟨H213, rfl, hO.done⟩
         ·refine no rfl (kb rfl hb210) rfl ?_
          refine no rfl (kb rfl hb210) rfl ?_
          refine no rfl (kb rfl hb210) rfl ?_
          refine val (x_pick_f (kb rfl hb210) (.bool false) rfl) ?_
          refine val (x_move (.bool false) rfl) ?_
          refine no rfl rfl rfl ?_
          refine no rfl rfl rfl ?_
          refine no rfl rfl rfl ?_
          refine no rfl rfl rfl ?_
          refine val (x_pick_f rfl (.bool false) rfl) ?_
          refine val (x_move (.bool false) rfl) ?_
          refine no rfl rfl rfl ?_
          refine val (x_pick_f rfl (.bool false) rfl) ?_
          refine val (x_assign (.bool false) rfl) ?_
          refine nil (W.ret ?_)
          obtain rfl := sj hm0
          exact ⟨H207, rfl, hO.done⟩
        ·refine no rfl (kb rfl hb204) rfl ?_
         refine val (x_pick_f (kb rfl hb204) (.bool false) rfl) ?_
         refine val (x_move (.bool false) rfl) ?_
         refine no rfl rfl rfl ?_
         refine no rfl rfl rfl ?_
         refine no rfl rfl rfl ?_
         refine no rfl rfl rfl ?_
         refine val (x_pick_f rfl (.bool false) rfl) ?_
         refine val (x_move (.bool false) rfl) ?_
         refine no rfl rfl rfl ?_
         refine no rfl rfl rfl ?_
         refine no rfl rfl rfl ?_
         refine no rfl rfl rfl ?_
         refine val (x_pick_f rfl (.bool false) rfl) ?_
         refine val (x_move (.bool false) rfl) ?_
         refine no rfl rfl rfl ?_
         refine val (x_pick_f rfl (.bool false) rfl) ?_
         refine val (x_assign (.bool false) rfl) ?_
         refine nil (W.ret ?_)
         obtain rfl := sj hm0
         exact ⟨H184, rfl, hO.done⟩
end Go.Sw

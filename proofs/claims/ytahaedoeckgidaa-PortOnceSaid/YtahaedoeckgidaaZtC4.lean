/- The calls compute the mirrors. -/
import Derived.Test.YtahaedoeckgidaaZtC3
set_option linter.unusedVariables false
set_option linter.unusedSimpArgs false
set_option maxRecDepth 100000
namespace Go.Sw
open Go.Proofs

theorem switchboardlaw23_awake_ok {w0 : World} {H0 : IHeap} (hS : Sub H0 w0)    {res : Bool} (hm0 : switchboardlaw23_awake  = some res) :
    Ok Try.prog 8 [].toArray w0 H0 (fun H' v => v = (.bool res)) := by
  unfold switchboardlaw23_awake at hm0
  refine ok_of_W Try.func8 rfl Try.ntmps8 (ts := [0]) rfl rfl rfl ?_
  have hO := St.start hS
  refine W.seq ?_
  refine W.region ?_
  refine WL.val (x_assign (.bool false) rfl) ?_
  refine WL.nil ?_
  refine W.seq ?_
  refine W.region ?_
  refine WL.val (x_build [] [(.int .i64 0), (.slice none 0 0), (.int .i64 0), (.slice none 0 0)] trivial (by kernel_rfl)) ?_
  obtain ⟨t1, ht2, hm0⟩ := bindSome hm0
  refine o_call hO go9 (port_Send_ok hO.sub (RS.nil0 _ _) (RS.nil0 _ _) ht2) rfl ?_
  rintro _ H3 w4 le5 ⟨A6, c7, A9, c10, rfl, h8, h11⟩ hO
  refine WL.val (x_move (.tuple ([(.agg ([(.int .i64 t1.1.Link.Next), (.slice A6 t1.1.Link.Queue.length c7), (.int .i64 t1.1.Window.Low), (.slice A9 t1.1.Window.Seen.length c10)] : List Value).toArray), (vs t1.2.1), (.int .i64 t1.2.2)] : List Value).toArray) rfl) ?_
  refine WL.val (x_extract (.agg ([(.int .i64 t1.1.Link.Next), (.slice A6 t1.1.Link.Queue.length c7), (.int .i64 t1.1.Window.Low), (.slice A9 t1.1.Window.Seen.length c10)] : List Value).toArray) rfl rfl) ?_
  refine WL.val (x_extract (vs t1.2.1) rfl rfl) ?_
  refine WL.val (x_extract (.int .i64 t1.2.2) rfl rfl) ?_
  refine o_alloc 0 _ [(.int .i64 0), (.slice none 0 0), (.int .i64 0), (.slice none 0 0)] zer30 hO rfl ?_
  intro g12 w13 hO
  refine o_sts 0 [(.int .i64 t1.1.Link.Next), (.slice A6 t1.1.Link.Queue.length c7), (.int .i64 t1.1.Window.Low), (.slice A9 t1.1.Window.Seen.length c10)] hO rfl rfl rfl siz30 rfl (Nat.le_of_ble_eq_true rfl) (by simp [Value.oneCell', vs]) ?_
  intro w14 hO
  refine WL.val (x_assign (vs t1.2.1) rfl) ?_
  refine WL.val (x_assign (.int .i64 t1.2.2) rfl) ?_
  refine WL.nil ?_
  refine W.seq ?_
  refine W.region ?_
  refine WL.val (x_build [] [(.int .i64 0), (.slice none 0 0), (.int .i64 0), (.slice none 0 0)] trivial (by kernel_rfl)) ?_
  refine WL.val (x_move (vs t1.2.1) rfl) ?_
  obtain ⟨t15, ht16, hm0⟩ := bindSome hm0
  refine o_call hO go12 (port_Receive_ok hO.sub (RS.nil0 _ _) (RS.nil0 _ _) ht16) rfl ?_
  rintro _ H17 w18 le19 ⟨A20, c21, A23, c24, rfl, h22, h25⟩ hO
  refine WL.val (x_move (.tuple ([(.agg ([(.int .i64 t15.1.Link.Next), (.slice A20 t15.1.Link.Queue.length c21), (.int .i64 t15.1.Window.Low), (.slice A23 t15.1.Window.Seen.length c24)] : List Value).toArray), (vs t15.2.1), (.bool t15.2.2.1), (vs t15.2.2.2.1), (.int .i64 t15.2.2.2.2)] : List Value).toArray) rfl) ?_
  refine WL.val (x_extract (.agg ([(.int .i64 t15.1.Link.Next), (.slice A20 t15.1.Link.Queue.length c21), (.int .i64 t15.1.Window.Low), (.slice A23 t15.1.Window.Seen.length c24)] : List Value).toArray) rfl rfl) ?_
  refine WL.val (x_extract (vs t15.2.1) rfl rfl) ?_
  refine WL.val (x_extract (.bool t15.2.2.1) rfl rfl) ?_
  refine WL.val (x_extract (vs t15.2.2.2.1) rfl rfl) ?_
  refine WL.val (x_extract (.int .i64 t15.2.2.2.2) rfl rfl) ?_
  refine o_alloc 1 _ [(.int .i64 0), (.slice none 0 0), (.int .i64 0), (.slice none 0 0)] zer30 hO rfl ?_
  intro g26 w27 hO
  refine o_sts 1 [(.int .i64 t15.1.Link.Next), (.slice A20 t15.1.Link.Queue.length c21), (.int .i64 t15.1.Window.Low), (.slice A23 t15.1.Window.Seen.length c24)] hO rfl rfl rfl siz30 rfl (Nat.le_of_ble_eq_true rfl) (by simp [Value.oneCell', vs]) ?_
  intro w28 hO
  refine WL.val (x_assign (vs t15.2.1) rfl) ?_
  refine WL.val (x_assign (.bool t15.2.2.1) rfl) ?_
  refine WL.val (x_assign (vs t15.2.2.2.1) rfl) ?_
  refine WL.val (x_assign (.int .i64 t15.2.2.2.2) rfl) ?_
  refine WL.nil ?_
  refine W.seq ?_
  refine W.region ?_
  refine WL.val (x_lds 1 [(.int .i64 t15.1.Link.Next), (.slice A20 t15.1.Link.Queue.length c21), (.int .i64 t15.1.Window.Low), (.slice A23 t15.1.Window.Seen.length c24)] hO rfl rfl agg30 rfl rfl) ?_
  refine WL.val (x_move (vs t1.2.1) rfl) ?_
  obtain ⟨t29, ht30, hm0⟩ := bindSome hm0
  refine o_call hO go12 (port_Receive_ok hO.sub h22 h25 ht30) rfl ?_
  rintro _ H31 w32 le33 ⟨A34, c35, A37, c38, rfl, h36, h39⟩ hO
  refine WL.val (x_move (.tuple ([(.agg ([(.int .i64 t29.1.Link.Next), (.slice A34 t29.1.Link.Queue.length c35), (.int .i64 t29.1.Window.Low), (.slice A37 t29.1.Window.Seen.length c38)] : List Value).toArray), (vs t29.2.1), (.bool t29.2.2.1), (vs t29.2.2.2.1), (.int .i64 t29.2.2.2.2)] : List Value).toArray) rfl) ?_
  refine WL.val (x_extract (.agg ([(.int .i64 t29.1.Link.Next), (.slice A34 t29.1.Link.Queue.length c35), (.int .i64 t29.1.Window.Low), (.slice A37 t29.1.Window.Seen.length c38)] : List Value).toArray) rfl rfl) ?_
  refine WL.val (x_extract (vs t29.2.1) rfl rfl) ?_
  refine WL.val (x_extract (.bool t29.2.2.1) rfl rfl) ?_
  refine WL.val (x_extract (vs t29.2.2.2.1) rfl rfl) ?_
  refine WL.val (x_extract (.int .i64 t29.2.2.2.2) rfl rfl) ?_
  refine o_alloc 2 _ [(.int .i64 0), (.slice none 0 0), (.int .i64 0), (.slice none 0 0)] zer30 hO rfl ?_
  intro g40 w41 hO
  refine o_sts 2 [(.int .i64 t29.1.Link.Next), (.slice A34 t29.1.Link.Queue.length c35), (.int .i64 t29.1.Window.Low), (.slice A37 t29.1.Window.Seen.length c38)] hO rfl rfl rfl siz30 rfl (Nat.le_of_ble_eq_true rfl) (by simp [Value.oneCell', vs]) ?_
  intro w42 hO
  refine WL.val (x_assign (vs t29.2.1) rfl) ?_
  refine WL.val (x_assign (.bool t29.2.2.1) rfl) ?_
  refine WL.val (x_assign (vs t29.2.2.2.1) rfl) ?_
  refine WL.val (x_assign (.int .i64 t29.2.2.2.2) rfl) ?_
  refine WL.nil ?_
  refine W.seq ?_
  refine W.region ?_
  refine WL.val (x_lds 0 [(.int .i64 t1.1.Link.Next), (.slice A6 t1.1.Link.Queue.length c7), (.int .i64 t1.1.Window.Low), (.slice A9 t1.1.Window.Seen.length c10)] hO rfl rfl agg30 rfl rfl) ?_
  refine WL.val (x_move (vs t15.2.2.2.1) rfl) ?_
  obtain ⟨t43, ht44, hm0⟩ := bindSome hm0
  refine o_call hO go12 (port_Receive_ok hO.sub (h8.up (le19.trans le33)) (h11.up (le19.trans le33)) ht44) rfl ?_
  rintro _ H45 w46 le47 ⟨A48, c49, A51, c52, rfl, h50, h53⟩ hO
  refine WL.val (x_move (.tuple ([(.agg ([(.int .i64 t43.1.Link.Next), (.slice A48 t43.1.Link.Queue.length c49), (.int .i64 t43.1.Window.Low), (.slice A51 t43.1.Window.Seen.length c52)] : List Value).toArray), (vs t43.2.1), (.bool t43.2.2.1), (vs t43.2.2.2.1), (.int .i64 t43.2.2.2.2)] : List Value).toArray) rfl) ?_
  refine WL.val (x_extract (.agg ([(.int .i64 t43.1.Link.Next), (.slice A48 t43.1.Link.Queue.length c49), (.int .i64 t43.1.Window.Low), (.slice A51 t43.1.Window.Seen.length c52)] : List Value).toArray) rfl rfl) ?_
  refine WL.val (x_extract (vs t43.2.1) rfl rfl) ?_
  refine WL.val (x_extract (.bool t43.2.2.1) rfl rfl) ?_
  refine WL.val (x_extract (vs t43.2.2.2.1) rfl rfl) ?_
  refine WL.val (x_extract (.int .i64 t43.2.2.2.2) rfl rfl) ?_
  refine o_sts 0 [(.int .i64 t43.1.Link.Next), (.slice A48 t43.1.Link.Queue.length c49), (.int .i64 t43.1.Window.Low), (.slice A51 t43.1.Window.Seen.length c52)] hO rfl rfl rfl siz30 rfl (Nat.le_of_ble_eq_true rfl) (by simp [Value.oneCell', vs]) ?_
  intro w54 hO
  refine WL.val (x_assign (vs t43.2.1) rfl) ?_
  refine WL.val (x_assign (.bool t43.2.2.1) rfl) ?_
  refine WL.val (x_assign (vs t43.2.2.2.1) rfl) ?_
  refine WL.val (x_assign (.int .i64 t43.2.2.2.2) rfl) ?_
  refine WL.nil ?_
  refine W.seq ?_
  refine W.region ?_
  refine WL.val (x_move (.int .i64 t1.2.2) rfl) ?_
  refine WL.val (x_eql rfl rfl) ?_
  refine WL.val (x_move (.bool (t1.2.2 == 0)) rfl) ?_
  refine WL.gval rfl rfl (fun hb => x_move (vs t15.2.1) rfl) ?_
  refine WL.gval rfl rfl (fun hb => x_eqls (gv hb) rfl) ?_
  refine WL.val (x_pick rfl (.bool ((t1.2.2 == 0) && (t15.2.1 == ([97] : Str)))) pick_and) ?_
  refine WL.val (x_move (.bool ((t1.2.2 == 0) && (t15.2.1 == ([97] : Str)))) rfl) ?_
  refine WL.gval rfl rfl (fun hb => x_move (.bool t15.2.2.1) rfl) ?_
  refine WL.val (x_pick rfl (.bool (((t1.2.2 == 0) && (t15.2.1 == ([97] : Str))) && t15.2.2.1)) pick_and) ?_
  refine WL.val (x_move (.bool (((t1.2.2 == 0) && (t15.2.1 == ([97] : Str))) && t15.2.2.1)) rfl) ?_
  refine WL.gval rfl rfl (fun hb => x_move (.int .i64 t15.2.2.2.2) rfl) ?_
  refine WL.gval rfl rfl (fun hb => x_eql (gv hb) rfl) ?_
  refine WL.val (x_pick rfl (.bool ((((t1.2.2 == 0) && (t15.2.1 == ([97] : Str))) && t15.2.2.1) && (t15.2.2.2.2 == 0))) pick_and) ?_
  refine WL.val (x_move (.bool ((((t1.2.2 == 0) && (t15.2.1 == ([97] : Str))) && t15.2.2.1) && (t15.2.2.2.2 == 0))) rfl) ?_
  refine WL.gval rfl rfl (fun hb => x_move (.bool t29.2.2.1) rfl) ?_
  refine WL.gval rfl rfl (fun hb => x_not (gv hb)) ?_
  refine WL.val (x_pick rfl (.bool (((((t1.2.2 == 0) && (t15.2.1 == ([97] : Str))) && t15.2.2.1) && (t15.2.2.2.2 == 0)) && (!t29.2.2.1))) pick_and) ?_
  refine WL.val (x_move (.bool (((((t1.2.2 == 0) && (t15.2.1 == ([97] : Str))) && t15.2.2.1) && (t15.2.2.2.2 == 0)) && (!t29.2.2.1))) rfl) ?_
  refine WL.gval rfl rfl (fun hb => x_move (.int .i64 t43.2.2.2.2) rfl) ?_
  refine WL.gval rfl rfl (fun hb => x_eql (gv hb) rfl) ?_
  refine WL.val (x_pick rfl (.bool ((((((t1.2.2 == 0) && (t15.2.1 == ([97] : Str))) && t15.2.2.1) && (t15.2.2.2.2 == 0)) && (!t29.2.2.1)) && (t43.2.2.2.2 == 0))) pick_and) ?_
  refine WL.val (x_move (.bool ((((((t1.2.2 == 0) && (t15.2.1 == ([97] : Str))) && t15.2.2.1) && (t15.2.2.2.2 == 0)) && (!t29.2.2.1)) && (t43.2.2.2.2 == 0))) rfl) ?_
  refine WL.gval rfl rfl (fun hb => x_fa rfl fo30_0) ?_
  refine WL.gval rfl rfl (fun hb => x_fa (gv hb) fo25_1) ?_
  refine WL.gval rfl rfl (fun hb => x_ld 0 (.slice A48 t43.1.Link.Queue.length c49) hO rfl (gv hb) rfl one23) ?_
  refine WL.gval rfl rfl (fun hb => x_len (gv hb) Try.underlying23) ?_
  refine WL.gval rfl rfl (fun hb => x_eql (gv hb) rfl) ?_
  refine WL.val (x_pick rfl (.bool (((((((t1.2.2 == 0) && (t15.2.1 == ([97] : Str))) && t15.2.2.1) && (t15.2.2.2.2 == 0)) && (!t29.2.2.1)) && (t43.2.2.2.2 == 0)) && ((t43.1.Link.Queue.length : Int) == 0))) pick_and) ?_
  refine WL.val (x_move (.bool (((((((t1.2.2 == 0) && (t15.2.1 == ([97] : Str))) && t15.2.2.1) && (t15.2.2.2.2 == 0)) && (!t29.2.2.1)) && (t43.2.2.2.2 == 0)) && ((t43.1.Link.Queue.length : Int) == 0))) rfl) ?_
  refine WL.gval rfl rfl (fun hb => x_lds 0 [(.int .i64 t43.1.Link.Next), (.slice A48 t43.1.Link.Queue.length c49), (.int .i64 t43.1.Window.Low), (.slice A51 t43.1.Window.Seen.length c52)] hO rfl rfl agg30 rfl rfl) ?_
  rcases btest hm0 with ⟨hb55, hm0⟩ | ⟨hb55, hm0⟩
  · refine WL.yes rfl (kb rfl hb55) ?_
    obtain ⟨t56, ht57, hm0⟩ := bindSome hm0
    refine o_call hO go6 (port_Again_ok hO.sub h50 h53 ht57) (args1 (by exact gkT hb55)) ?_
    rintro _ H58 w59 le60 ⟨A61, c62, rfl, h63⟩ hO
    refine WL.yes rfl (kb rfl hb55) ?_
    refine WL.val (x_len rfl Try.underlying31) ?_
    refine WL.yes rfl (kb rfl hb55) ?_
    refine WL.val (x_eql rfl rfl) ?_
    refine WL.val (x_pick_t (kb rfl hb55) (.bool ((t56.length : Int) == 0)) rfl) ?_
    refine WL.val (x_assign (.bool ((t56.length : Int) == 0)) rfl) ?_
    refine WL.nil ?_
    refine W.ret ?_
    obtain rfl := Option.some.inj hm0
    exact ⟨H58, rfl, hO.done⟩
  · refine WL.no rfl (kb rfl hb55) rfl ?_
    refine WL.no rfl (kb rfl hb55) rfl ?_
    refine WL.no rfl (kb rfl hb55) rfl ?_
    refine WL.val (x_pick_f (kb rfl hb55) (.bool false) rfl) ?_
    refine WL.val (x_assign (.bool false) rfl) ?_
    refine WL.nil ?_
    refine W.ret ?_
    obtain rfl := Option.some.inj hm0
    exact ⟨H45, rfl, hO.done⟩

theorem switchboardlaw23_PortOnce_ok {w0 : World} {H0 : IHeap} (hS : Sub H0 w0) {p0 : List (List Int)}  {A1_ : Option Addr} {c1_ : Nat} (h1_ : RS (eArr 2 (eInt .u8)) H0 A1_ c1_ p0) {res : Bool} (hm0 : switchboardlaw23_PortOnce p0 = some res) :
    Ok Try.prog 3 [(.slice A1_ p0.length c1_)].toArray w0 H0 (fun H' v => v = (.bool res)) := by
  unfold switchboardlaw23_PortOnce at hm0
  refine ok_of_W Try.func3 rfl Try.ntmps3 (ts := [2]) rfl rfl rfl ?_
  have hO := St.start hS
  refine W.seq ?_
  refine W.region ?_
  refine WL.val (x_assign (.bool false) rfl) ?_
  refine WL.nil ?_
  refine W.seq ?_
  refine W.region ?_
  refine o_alloc 0 _ zc34 zer34 hO rfl ?_
  intro g1 w2 hO
  refine WL.nil ?_
  refine W.seq ?_
  refine W.seq ?_
  refine W.region ?_
  refine WL.val (x_assign (.int .i64 0) rfl) ?_
  refine WL.nil ?_
  obtain ⟨o3, hm1, hm0⟩ := bindSome hm0
  have hO := hO.pick [(0, .blk g1 zc34 34)] ⟨rfl, trivial⟩
  refine W.blockLoop (fun r w => ∃ (v9 : Int) (v10 : Switchboardlaw23Net) (cs11 : List Value) (H4 : IHeap), .out (v9, v10) = o3 ∧ Le H0 H4 ∧ St w0 H0 [] H4 (ol [(0, .blk g1 cs11 34)]) w ∧ r 3 = (.pointer (some ⟨g1, 0, none⟩)) ∧ Enc.rep eSwitchboardlaw23Net H4 cs11 v10) (fun k r w => ∃ (rest7 : Nat) (v9 : Int) (v10 : Switchboardlaw23Net) (cs11 : List Value) (H4 : IHeap), rest7 = k ∧ switchboardlaw23_PortOnce_l1 p0 rest7 v9 v10 = some o3 ∧ Le H0 H4 ∧ St w0 H0 [] H4 (ol [(0, .blk g1 cs11 34)]) w ∧ r 0 = (.slice A1_ p0.length c1_) ∧ r 3 = (.pointer (some ⟨g1, 0, none⟩)) ∧ r 4 = (.int .i64 v9) ∧ Enc.rep eSwitchboardlaw23Net H4 cs11 v10) FUEL ?_ ?_ ?_
  · exact ⟨_, 0, (⟨(⟨(⟨0, ([] : List LinkFrame)⟩ : LinkLink), (⟨0, ([] : List Int)⟩ : WindowWindow)⟩ : PortPort), (⟨(⟨0, ([] : List LinkFrame)⟩ : LinkLink), (⟨0, ([] : List Int)⟩ : WindowWindow)⟩ : PortPort), ([] : List Str), ([] : List Str), (List.replicate 256 (0 : Int)), (0 : Int)⟩ : Switchboardlaw23Net), zc34, _, rfl, hm1, Le.refl _, hO, rfl, rfl, rfl, (zr34 _)⟩
  ·
    intro k r w
    rintro ⟨rest7, v9, v10, cs11, H4, rfl, hm1, le5, hO, f0_1, f3_1, f4_1, h12⟩
    cases rest7 with
    | zero => rw [switchboardlaw23_PortOnce_l1] at hm1; cases hm1
    | succ rest7 =>
      rw [switchboardlaw23_PortOnce_l1] at hm1
      refine W.seq ?_
      refine W.seq ?_
      refine W.region ?_
      refine WL.val (x_move (.int .i64 v9) f4_1) ?_
      refine WL.val (x_move (.slice A1_ p0.length c1_) f0_1) ?_
      refine WL.val (x_len rfl Try.underlying22) ?_
      refine WL.val (x_lss rfl rfl) ?_
      refine WL.val (x_move (.bool (decide (v9 < (p0.length : Int)))) rfl) ?_
      refine WL.gval rfl rfl (fun hb => x_move (.int .i64 v9) f4_1) ?_
      refine WL.gval rfl rfl (fun hb => x_lss (gv hb) rfl) ?_
      refine WL.val (x_pick rfl (.bool ((decide (v9 < (p0.length : Int))) && (decide (v9 < 300)))) pick_and) ?_
      refine WL.nil ?_
      refine W.test rfl hm1 ?_ ?_
      · intro hb13 hm1
        refine W.skip ?_
        refine W.seq ?_
        refine W.block ?_
        refine W.seq ?_
        refine W.draw (SD w0 H0 [] H4 [(0, .blk g1 cs11 34)]) (fun i => ([15] : List Nat).contains i) mixed 16 rfl _ rfl ?_
        intro w14 hh1 hh2 hh3 hh4; have hO := hO.same hh1 hh2 hh3 hh4; clear hh1 hh2 hh3 hh4
        have hS : SD w0 H0 [] H4 [(0, .blk g1 cs11 34)] w14 := ⟨_, _, Le.refl _, hO, ⟨rfl, trivial⟩⟩
        refine WA.take (i := 0) rfl (by kernel_rfl) (fun w hS => x_ldsD 0 cs11 hS rfl f3_1 agg34 (whole_take (rep_len h12 rfl)) (rep_len h12 rfl)) hS ?_
        refine WA.take (i := 1) rfl (by kernel_rfl) (fun w hS => x_move (.slice A1_ p0.length c1_) f0_1) hS ?_
        refine WA.take (i := 2) rfl (by kernel_rfl) (fun w hS => x_move (.int .i64 v9) f4_1) hS ?_
        obtain ⟨hin18, hm1⟩ := chk hm1
        obtain ⟨a15, h16, hA17⟩ := RS.at_ (h1_.up le5) hin18
        refine WA.take (i := 3) rfl (by kernel_rfl) (fun w hS => x_ia (sA rfl hA17) rfl sle22 hin18) hS ?_
        refine WA.take (i := 4) rfl (by kernel_rfl) (fun w hS => x_iaAt rfl h16 rfl are36 rfl) hS ?_
        refine WA.take (i := 5) rfl (by kernel_rfl) (fun w hS => x_ldc rfl ((h16.part (lens_idx (n := 2) (eInt .u8) (i := 0) rfl).part).int _ hS.sub) one5) hS ?_
        refine WA.take (i := 6) rfl (by kernel_rfl) (fun w hS => x_rem rfl rfl rfl) hS ?_
        refine WA.take (i := 7) rfl (by kernel_rfl) (fun w hS => x_conv Try.underlying5 Try.underlying3 rfl) hS ?_
        refine WA.take (i := 8) rfl (by kernel_rfl) (fun w hS => x_move (.slice A1_ p0.length c1_) f0_1) hS ?_
        refine WA.take (i := 9) rfl (by kernel_rfl) (fun w hS => x_move (.int .i64 v9) f4_1) hS ?_
        obtain ⟨hin22, hm1⟩ := chk hm1
        obtain ⟨a19, h20, hA21⟩ := RS.at_ (h1_.up le5) hin22
        refine WA.take (i := 10) rfl (by kernel_rfl) (fun w hS => x_ia (sA rfl hA21) rfl sle22 hin22) hS ?_
        refine WA.take (i := 11) rfl (by kernel_rfl) (fun w hS => x_iaAt rfl h20 rfl are36 rfl) hS ?_
        refine WA.take (i := 12) rfl (by kernel_rfl) (fun w hS => x_ldc rfl ((h20.part (lens_idx (n := 2) (eInt .u8) (i := 1) rfl).part).int _ hS.sub) one5) hS ?_
        refine WA.take (i := 13) rfl (by kernel_rfl) (fun w hS => x_conv Try.underlying5 Try.underlying3 rfl) hS ?_
        refine WA.only (i := 14) (by kernel_rfl) rfl ?_
        obtain ⟨t23, ht24, hm1⟩ := bindSome hm1
        refine o_call hO go4 (switchboardlaw23_act_ok hO.sub h12 ht24) rfl ?_
        rintro _ H25 w26 le27 ⟨cs28, rfl, h29⟩ hO
        have hS : SD w0 H0 [] H4 [(0, .blk g1 cs11 34)] _ := ⟨_, _, le27, hO, ⟨rfl, trivial⟩⟩
        refine WL.nil ⟨fun _ => hS, ?_⟩
        refine WA.only (i := 15) (by kernel_rfl) rfl ?_
        refine o_stP 0 (.agg cs28.toArray) hO rfl (Enc.mono _ le27 h12) (Lens.refl _) f3_1 rfl rfl h29 siz34 ?_
        intro cs30 w31 (hr32 : Enc.rep eSwitchboardlaw23Net H25 cs30 t23) hO
        refine WL.nil ⟨fun h => absurd h (by decide), ?_⟩
        refine WA.done (by kernel_rfl) ?_
        refine W.seq ?_
        refine W.region ?_
        refine WL.val (x_move (.int .i64 0) rfl) ?_
        refine WL.nil ?_
        obtain ⟨hlim2, hm1⟩ := chk hm1
        obtain ⟨o33, hm2, hm1⟩ := bindSome hm1
        have hO := hO.pick [(0, .blk g1 cs30 34)] ⟨rfl, trivial⟩
        refine W.blockLoop (fun r w => ∃ (i36 : Nat) (H34 : IHeap), .out () = o33 ∧ Le H25 H34 ∧ St w0 H0 [] H34 (ol [(0, .blk g1 cs30 34)]) w ∧ r 0 = (.slice A1_ p0.length c1_) ∧ r 3 = (.pointer (some ⟨g1, 0, none⟩)) ∧ r 4 = (.int .i64 v9) ∧ r 15 = (bif (decide (v9 < (p0.length : Int))) == true then (.int .i64 v9) else undef) ∧ r 16 = (bif (decide (v9 < (p0.length : Int))) == true then (.bool (decide (v9 < 300))) else undef)) (fun k r w => ∃ (i36 : Nat) (rest37 : Nat) (H34 : IHeap), rest37 = k ∧ Int.toNat (256 - (i36 : Int)) = rest37 ∧ switchboardlaw23_PortOnce_l2 t23 rest37 i36 = some o33 ∧ Le H25 H34 ∧ St w0 H0 [] H34 (ol [(0, .blk g1 cs30 34)]) w ∧ r 0 = (.slice A1_ p0.length c1_) ∧ r 3 = (.pointer (some ⟨g1, 0, none⟩)) ∧ r 4 = (.int .i64 v9) ∧ r 15 = (bif (decide (v9 < (p0.length : Int))) == true then (.int .i64 v9) else undef) ∧ r 16 = (bif (decide (v9 < (p0.length : Int))) == true then (.bool (decide (v9 < 300))) else undef) ∧ r 35 = (.int .i64 (i36 : Int))) (Int.toNat 256) ?_ ?_ ?_
        · exact ⟨0, _, _, rfl, cnt_init _, hm2, Le.refl _, hO, f0_1, f3_1, f4_1, rfl, rfl, rfl⟩
        ·
          intro k r w
          rintro ⟨i36, rest37, H34, rfl, hd39, hm2, le35, hO, f0_2, f3_2, f4_2, f15_2, f16_2, f35_2⟩
          cases rest37 with
          | zero =>
            rw [switchboardlaw23_PortOnce_l2] at hm2
            have hlt := cnt_zero hd39
            refine W.seq ?_
            refine W.region ?_
            refine WL.val (x_lss f35_2 rfl) ?_
            refine WL.nil ?_
            refine W.seq ?_
            refine W.cond_f (kb rfl hlt) ?_
            refine W.exit _ rfl ?_
            obtain rfl := Option.some.inj hm2
            exact ⟨i36, H34, rfl, le35, hO.pick _ ⟨rfl, trivial⟩, f0_2, f3_2, f4_2, f15_2, f16_2⟩
          | succ rest37 =>
            rw [switchboardlaw23_PortOnce_l2] at hm2
            have hlt := cnt_lt hd39
            have hnx := cnt_next hd39
            have hinc := inc_lim hlt hlim2
            refine W.seq ?_
            refine W.region ?_
            refine WL.val (x_lss f35_2 rfl) ?_
            refine WL.nil ?_
            refine W.seq ?_
            refine W.cond_t (kb rfl hlt) ?_
            refine W.skip ?_
            refine W.seq ?_
            refine W.block ?_
            refine W.seq ?_
            refine W.region ?_
            refine WL.val (x_move (.int .i64 (i36 : Int)) f35_2) ?_
            refine WL.val (x_assign (.int .i64 (i36 : Int)) rfl) ?_
            refine WL.nil ?_
            refine W.seq ?_
            refine W.region ?_
            refine WL.val (x_move (.int .i64 (i36 : Int)) rfl) ?_
            refine WL.val (x_fa f3_2 fo34_4) ?_
            obtain ⟨hin40, hm2⟩ := chk hm2
            refine WL.val (x_iaArr rfl rfl are32 hin40) ?_
            obtain ⟨cs41, hr42, hc43⟩ := (Part.comp lSwitchboardlaw23Net_got.part ((lens_idx (n := 256) (eInt .i64) hin40).part)) _ _ _ (Enc.mono _ le35 hr32)
            obtain rfl := hr42
            refine WL.val (x_ld 0 (.int .i64 (at0 t23.got (i36 : Int))) hO rfl rfl (hc43 0 _ rfl) one3) ?_
            refine WL.val (x_gtr rfl rfl) ?_
            refine WL.val (x_move (.bool (decide (1 < (at0 t23.got (i36 : Int))))) rfl) ?_
            refine WL.gval rfl rfl (fun hb => x_move (.int .i64 (i36 : Int)) rfl) ?_
            refine WL.gval rfl rfl (fun hb => x_fa f3_2 fo34_4) ?_
            rcases btest hm2 with ⟨hb44, hm2⟩ | ⟨hb44, hm2⟩
            · refine WL.no rfl (kb rfl hb44) rfl ?_
              refine WL.no rfl (kb rfl hb44) rfl ?_
              refine WL.no rfl (kb rfl hb44) rfl ?_
              refine WL.no rfl (kb rfl hb44) rfl ?_
              refine WL.nou rfl rfl ?_
              refine WL.nou rfl rfl ?_
              refine WL.nou rfl rfl ?_
              refine WL.nou rfl rfl ?_
              refine WL.no rfl (kb rfl hb44) rfl ?_
              refine WL.val (x_pick_t (kb rfl hb44) (.bool true) rfl) ?_
              refine WL.nil ?_
              refine W.cond_t rfl ?_
              refine W.seq ?_
              refine W.region ?_
              refine WL.val (x_assign (.bool false) rfl) ?_
              refine WL.nil ?_
              refine W.ret ?_
              obtain rfl := Option.some.inj hm2
              dsimp only at hm1
              obtain rfl := Option.some.inj hm1
              dsimp only at hm0
              obtain rfl := Option.some.inj hm0
              exact ⟨H34, rfl, hO.done⟩
            · refine WL.yes rfl (kb rfl hb44) ?_
              obtain ⟨hin45, hm2⟩ := chk hm2
              refine WL.val (x_iaArr (by exact gkF hb44) (by exact gkF hb44) are32 hin45) ?_
              obtain ⟨cs46, hr47, hc48⟩ := (Part.comp lSwitchboardlaw23Net_got.part ((lens_idx (n := 256) (eInt .i64) hin45).part)) _ _ _ (Enc.mono _ le35 hr32)
              obtain rfl := hr47
              refine WL.yes rfl (kb rfl hb44) ?_
              refine WL.val (x_ld 0 (.int .i64 (at0 t23.got (i36 : Int))) hO rfl rfl (hc48 0 _ rfl) one3) ?_
              refine WL.yes rfl (kb rfl hb44) ?_
              refine WL.val (x_gtr rfl rfl) ?_
              refine WL.yes rfl (kb rfl hb44) ?_
              refine WL.val (x_move (.bool (decide (0 < (at0 t23.got (i36 : Int))))) rfl) ?_
              refine WL.gval rfl rfl (fun hb => x_move (.int .i64 (i36 : Int)) rfl) ?_
              refine WL.gval rfl rfl (fun hb => x_fa f3_2 fo34_5) ?_
              obtain ⟨cs49, hr50, hc51⟩ := lSwitchboardlaw23Net_sent.part _ _ _ (Enc.mono _ le35 hr32)
              obtain rfl := hr50
              refine WL.gval rfl rfl (fun hb => x_ld 0 (.int .i64 t23.sent) hO rfl (gv hb) (hc51 0 _ rfl) one3) ?_
              refine WL.gval rfl rfl (fun hb => x_geq (gv hb) (gv hb)) ?_
              refine WL.yes rfl (kb rfl hb44) ?_
              refine WL.val (x_pick rfl (.bool ((decide (0 < (at0 t23.got (i36 : Int)))) && (decide (t23.sent ≤ (i36 : Int))))) pick_and) ?_
              refine WL.val (x_pick_f (kb rfl hb44) (.bool ((decide (0 < (at0 t23.got (i36 : Int)))) && (decide (t23.sent ≤ (i36 : Int))))) rfl) ?_
              refine WL.nil ?_
              refine W.test rfl hm2 ?_ ?_
              · intro hb52 hm2
                refine W.seq ?_
                refine W.region ?_
                refine WL.val (x_assign (.bool false) rfl) ?_
                refine WL.nil ?_
                refine W.ret ?_
                obtain rfl := Option.some.inj hm2
                dsimp only at hm1
                obtain rfl := Option.some.inj hm1
                dsimp only at hm0
                obtain rfl := Option.some.inj hm0
                exact ⟨H34, rfl, hO.done⟩
              · intro hb52 hm2
                refine W.skip ?_
                refine W.region ?_
                refine WL.val (x_add f35_2 rfl) ?_
                refine WL.val (x_move (.int .i64 (i64w ((i36 : Int) + 1))) rfl) ?_
                refine WL.nil ?_
                exact ⟨_, Nat.lt_succ_self _, i36 + 1, rest37, H34, rfl, hnx, hm2, le35, hO.pick _ ⟨rfl, trivial⟩, f0_2, f3_2, f4_2, f15_2, f16_2, (incv hinc)⟩
        · intro r w
          rintro ⟨i55, H53, rfl, le54, hO, f56, f57, f58, f59, f60⟩
          dsimp only at hm1
          refine W.region ?_
          refine WL.val (x_move (.int .i64 v9) f58) ?_
          refine WL.val (x_add rfl rfl) ?_
          refine WL.val (x_assign (.int .i64 (i64w (v9 + 1))) rfl) ?_
          refine WL.nil ?_
          exact ⟨_, Nat.lt_succ_self _, rest7, i64w (v9 + 1), t23, cs30, H53, rfl, hm1, (le5.trans (le27.trans le54)), hO.pick _ ⟨rfl, trivial⟩, f56, f57, rfl, (Enc.mono _ le54 hr32)⟩
      · intro hb13 hm1
        refine W.exit _ rfl ?_
        obtain rfl := Option.some.inj hm1
        exact ⟨v9, v10, cs11, H4, rfl, le5, hO.pick _ ⟨rfl, trivial⟩, f3_1, h12⟩
  · intro r w
    rintro ⟨v63, v64, cs65, H61, rfl, le62, hO, f68, h66⟩
    dsimp only at hm0
    refine W.seq ?_
    refine W.seq ?_
    refine W.region ?_
    refine WL.val (x_assign (.int .i64 0) rfl) ?_
    refine WL.nil ?_
    obtain ⟨o69, hm1, hm0⟩ := bindSome hm0
    have hO := hO.pick [(0, .blk g1 cs65 34)] ⟨rfl, trivial⟩
    refine W.blockLoop (fun r w => ∃ (v75 : Int) (v76 : Switchboardlaw23Net) (cs77 : List Value) (H70 : IHeap), (v75, v76) = o69 ∧ Le H61 H70 ∧ St w0 H0 [] H70 (ol [(0, .blk g1 cs77 34)]) w ∧ r 3 = (.pointer (some ⟨g1, 0, none⟩)) ∧ Enc.rep eSwitchboardlaw23Net H70 cs77 v76) (fun k r w => ∃ (rest73 : Nat) (v75 : Int) (v76 : Switchboardlaw23Net) (cs77 : List Value) (H70 : IHeap), rest73 = k ∧ switchboardlaw23_PortOnce_l3 rest73 v75 v76 = some o69 ∧ Le H61 H70 ∧ St w0 H0 [] H70 (ol [(0, .blk g1 cs77 34)]) w ∧ r 3 = (.pointer (some ⟨g1, 0, none⟩)) ∧ r 6 = (.int .i64 v75) ∧ Enc.rep eSwitchboardlaw23Net H70 cs77 v76) FUEL ?_ ?_ ?_
    · exact ⟨_, 0, v64, cs65, _, rfl, hm1, Le.refl _, hO, f68, rfl, h66⟩
    ·
      intro k r w
      rintro ⟨rest73, v75, v76, cs77, H70, rfl, hm1, le71, hO, f3_3, f6_3, h78⟩
      cases rest73 with
      | zero => rw [switchboardlaw23_PortOnce_l3] at hm1; cases hm1
      | succ rest73 =>
        rw [switchboardlaw23_PortOnce_l3] at hm1
        refine W.seq ?_
        refine W.seq ?_
        refine W.region ?_
        refine WL.val (x_move (.int .i64 v75) f6_3) ?_
        refine WL.val (x_lss rfl rfl) ?_
        refine WL.val (x_move (.bool (decide (v75 < 800))) rfl) ?_
        refine WL.gval rfl rfl (fun hb => x_fa f3_3 fo34_3) ?_
        obtain ⟨cs79, hr80, hc81⟩ := lSwitchboardlaw23Net_back.part _ _ _ h78
        obtain ⟨A82, c83, rfl, h84⟩ := hr80
        refine WL.gval rfl rfl (fun hb => x_ld 0 (.slice A82 v76.back.length c83) hO rfl (gv hb) (hc81 0 _ rfl) one31) ?_
        refine WL.gval rfl rfl (fun hb => x_len (gv hb) Try.underlying31) ?_
        refine WL.gval rfl rfl (fun hb => x_gtr (gv hb) rfl) ?_
        refine WL.val (x_pick rfl (.bool ((decide (v75 < 800)) && (decide (0 < (v76.back.length : Int))))) pick_and) ?_
        refine WL.nil ?_
        refine W.test rfl hm1 ?_ ?_
        · intro hb85 hm1
          refine W.skip ?_
          refine W.seq ?_
          refine W.block ?_
          refine W.region ?_
          refine WL.val (x_lds 0 cs77 hO rfl f3_3 agg34 (whole_take (rep_len h78 rfl)) (rep_len h78 rfl)) ?_
          obtain ⟨t86, ht87, hm1⟩ := bindSome hm1
          refine o_call hO go5 (switchboardlaw23_tell_ok hO.sub h78 ht87) rfl ?_
          rintro _ H88 w89 le90 ⟨cs91, rfl, h92⟩ hO
          refine o_stP 0 (.agg cs91.toArray) hO rfl (Enc.mono _ le90 h78) (Lens.refl _) f3_3 rfl rfl h92 siz34 ?_
          intro cs93 w94 (hr95 : Enc.rep eSwitchboardlaw23Net H88 cs93 t86) hO
          refine WL.nil ?_
          refine W.region ?_
          refine WL.val (x_move (.int .i64 v75) f6_3) ?_
          refine WL.val (x_add rfl rfl) ?_
          refine WL.val (x_assign (.int .i64 (i64w (v75 + 1))) rfl) ?_
          refine WL.nil ?_
          exact ⟨_, Nat.lt_succ_self _, rest73, i64w (v75 + 1), t86, cs93, H88, rfl, hm1, (le71.trans le90), hO.pick _ ⟨rfl, trivial⟩, f3_3, rfl, hr95⟩
        · intro hb85 hm1
          refine W.exit _ rfl ?_
          obtain rfl := Option.some.inj hm1
          exact ⟨v75, v76, cs77, H70, rfl, le71, hO.pick _ ⟨rfl, trivial⟩, f3_3, h78⟩
    · intro r w
      rintro ⟨v98, v99, cs100, H96, rfl, le97, hO, f103, h101⟩
      dsimp only at hm0
      refine W.seq ?_
      refine W.region ?_
      refine WL.val (x_fa f103 fo34_0) ?_
      obtain ⟨cs104, hr105, hc106⟩ := lSwitchboardlaw23Net_a.part _ _ _ h101
      obtain ⟨A107, c108, A110, c111, rfl, h109, h112⟩ := hr105
      refine WL.val (x_lds 0 [(.int .i64 v99.a.Link.Next), (.slice A107 v99.a.Link.Queue.length c108), (.int .i64 v99.a.Window.Low), (.slice A110 v99.a.Window.Seen.length c111)] hO rfl rfl agg30 (take_of_part hc106 rfl) rfl) ?_
      obtain ⟨t113, ht114, hm0⟩ := bindSome hm0
      refine o_call hO go6 (port_Again_ok hO.sub h109 h112 ht114) rfl ?_
      rintro _ H115 w116 le117 ⟨A118, c119, rfl, h120⟩ hO
      refine WL.val (x_fa f103 fo34_2) ?_
      refine o_stP 0 (.slice A118 t113.length c119) hO rfl (Enc.mono _ le117 h101) lSwitchboardlaw23Net_there rfl rfl rfl ⟨A118, c119, rfl, h120⟩ siz31 ?_
      intro cs121 w122 (hr123 : Enc.rep eSwitchboardlaw23Net H115 cs121 ({ v99 with there := t113 } : Switchboardlaw23Net)) hO
      refine WL.nil ?_
      refine W.seq ?_
      refine W.seq ?_
      refine W.region ?_
      refine WL.val (x_assign (.int .i64 0) rfl) ?_
      refine WL.nil ?_
      obtain ⟨o124, hm1, hm0⟩ := bindSome hm0
      have hO := hO.pick [(0, .blk g1 cs121 34)] ⟨rfl, trivial⟩
      refine W.blockLoop (fun r w => ∃ (v130 : Int) (v131 : Switchboardlaw23Net) (cs132 : List Value) (H125 : IHeap), (v130, v131) = o124 ∧ Le H115 H125 ∧ St w0 H0 [] H125 (ol [(0, .blk g1 cs132 34)]) w ∧ r 3 = (.pointer (some ⟨g1, 0, none⟩)) ∧ Enc.rep eSwitchboardlaw23Net H125 cs132 v131) (fun k r w => ∃ (rest128 : Nat) (v130 : Int) (v131 : Switchboardlaw23Net) (cs132 : List Value) (H125 : IHeap), rest128 = k ∧ switchboardlaw23_PortOnce_l4 rest128 v130 v131 = some o124 ∧ Le H115 H125 ∧ St w0 H0 [] H125 (ol [(0, .blk g1 cs132 34)]) w ∧ r 3 = (.pointer (some ⟨g1, 0, none⟩)) ∧ r 7 = (.int .i64 v130) ∧ Enc.rep eSwitchboardlaw23Net H125 cs132 v131) FUEL ?_ ?_ ?_
      · exact ⟨_, 0, ({ v99 with there := t113 } : Switchboardlaw23Net), cs121, _, rfl, hm1, Le.refl _, hO, f103, rfl, hr123⟩
      ·
        intro k r w
        rintro ⟨rest128, v130, v131, cs132, H125, rfl, hm1, le126, hO, f3_4, f7_4, h133⟩
        cases rest128 with
        | zero => rw [switchboardlaw23_PortOnce_l4] at hm1; cases hm1
        | succ rest128 =>
          rw [switchboardlaw23_PortOnce_l4] at hm1
          refine W.seq ?_
          refine W.seq ?_
          refine W.region ?_
          refine WL.val (x_move (.int .i64 v130) f7_4) ?_
          refine WL.val (x_lss rfl rfl) ?_
          refine WL.val (x_move (.bool (decide (v130 < 400))) rfl) ?_
          refine WL.gval rfl rfl (fun hb => x_fa f3_4 fo34_2) ?_
          obtain ⟨cs134, hr135, hc136⟩ := lSwitchboardlaw23Net_there.part _ _ _ h133
          obtain ⟨A137, c138, rfl, h139⟩ := hr135
          refine WL.gval rfl rfl (fun hb => x_ld 0 (.slice A137 v131.there.length c138) hO rfl (gv hb) (hc136 0 _ rfl) one31) ?_
          refine WL.gval rfl rfl (fun hb => x_len (gv hb) Try.underlying31) ?_
          refine WL.gval rfl rfl (fun hb => x_gtr (gv hb) rfl) ?_
          refine WL.val (x_pick rfl (.bool ((decide (v130 < 400)) && (decide (0 < (v131.there.length : Int))))) pick_and) ?_
          refine WL.nil ?_
          refine W.test rfl hm1 ?_ ?_
          · intro hb140 hm1
            refine W.skip ?_
            refine W.seq ?_
            refine W.block ?_
            refine W.region ?_
            refine WL.val (x_lds 0 cs132 hO rfl f3_4 agg34 (whole_take (rep_len h133 rfl)) (rep_len h133 rfl)) ?_
            obtain ⟨t141, ht142, hm1⟩ := bindSome hm1
            refine o_call hO go7 (switchboardlaw23_deliver_ok hO.sub h133 ht142) rfl ?_
            rintro _ H143 w144 le145 ⟨cs146, rfl, h147⟩ hO
            refine o_stP 0 (.agg cs146.toArray) hO rfl (Enc.mono _ le145 h133) (Lens.refl _) f3_4 rfl rfl h147 siz34 ?_
            intro cs148 w149 (hr150 : Enc.rep eSwitchboardlaw23Net H143 cs148 t141) hO
            refine WL.nil ?_
            refine W.region ?_
            refine WL.val (x_move (.int .i64 v130) f7_4) ?_
            refine WL.val (x_add rfl rfl) ?_
            refine WL.val (x_assign (.int .i64 (i64w (v130 + 1))) rfl) ?_
            refine WL.nil ?_
            exact ⟨_, Nat.lt_succ_self _, rest128, i64w (v130 + 1), t141, cs148, H143, rfl, hm1, (le126.trans le145), hO.pick _ ⟨rfl, trivial⟩, f3_4, rfl, hr150⟩
          · intro hb140 hm1
            refine W.exit _ rfl ?_
            obtain rfl := Option.some.inj hm1
            exact ⟨v130, v131, cs132, H125, rfl, le126, hO.pick _ ⟨rfl, trivial⟩, f3_4, h133⟩
      · intro r w
        rintro ⟨v153, v154, cs155, H151, rfl, le152, hO, f158, h156⟩
        dsimp only at hm0
        refine W.seq ?_
        refine W.seq ?_
        refine W.region ?_
        refine WL.val (x_assign (.int .i64 0) rfl) ?_
        refine WL.nil ?_
        obtain ⟨o159, hm1, hm0⟩ := bindSome hm0
        have hO := hO.pick [(0, .blk g1 cs155 34)] ⟨rfl, trivial⟩
        refine W.blockLoop (fun r w => ∃ (v165 : Int) (v166 : Switchboardlaw23Net) (cs167 : List Value) (H160 : IHeap), (v165, v166) = o159 ∧ Le H151 H160 ∧ St w0 H0 [] H160 (ol [(0, .blk g1 cs167 34)]) w ∧ r 3 = (.pointer (some ⟨g1, 0, none⟩)) ∧ Enc.rep eSwitchboardlaw23Net H160 cs167 v166) (fun k r w => ∃ (rest163 : Nat) (v165 : Int) (v166 : Switchboardlaw23Net) (cs167 : List Value) (H160 : IHeap), rest163 = k ∧ switchboardlaw23_PortOnce_l5 rest163 v165 v166 = some o159 ∧ Le H151 H160 ∧ St w0 H0 [] H160 (ol [(0, .blk g1 cs167 34)]) w ∧ r 3 = (.pointer (some ⟨g1, 0, none⟩)) ∧ r 8 = (.int .i64 v165) ∧ Enc.rep eSwitchboardlaw23Net H160 cs167 v166) FUEL ?_ ?_ ?_
        · exact ⟨_, 0, v154, cs155, _, rfl, hm1, Le.refl _, hO, f158, rfl, h156⟩
        ·
          intro k r w
          rintro ⟨rest163, v165, v166, cs167, H160, rfl, hm1, le161, hO, f3_5, f8_5, h168⟩
          cases rest163 with
          | zero => rw [switchboardlaw23_PortOnce_l5] at hm1; cases hm1
          | succ rest163 =>
            rw [switchboardlaw23_PortOnce_l5] at hm1
            refine W.seq ?_
            refine W.seq ?_
            refine W.region ?_
            refine WL.val (x_move (.int .i64 v165) f8_5) ?_
            refine WL.val (x_lss rfl rfl) ?_
            refine WL.val (x_move (.bool (decide (v165 < 800))) rfl) ?_
            refine WL.gval rfl rfl (fun hb => x_fa f3_5 fo34_3) ?_
            obtain ⟨cs169, hr170, hc171⟩ := lSwitchboardlaw23Net_back.part _ _ _ h168
            obtain ⟨A172, c173, rfl, h174⟩ := hr170
            refine WL.gval rfl rfl (fun hb => x_ld 0 (.slice A172 v166.back.length c173) hO rfl (gv hb) (hc171 0 _ rfl) one31) ?_
            refine WL.gval rfl rfl (fun hb => x_len (gv hb) Try.underlying31) ?_
            refine WL.gval rfl rfl (fun hb => x_gtr (gv hb) rfl) ?_
            refine WL.val (x_pick rfl (.bool ((decide (v165 < 800)) && (decide (0 < (v166.back.length : Int))))) pick_and) ?_
            refine WL.nil ?_
            refine W.test rfl hm1 ?_ ?_
            · intro hb175 hm1
              refine W.skip ?_
              refine W.seq ?_
              refine W.block ?_
              refine W.region ?_
              refine WL.val (x_lds 0 cs167 hO rfl f3_5 agg34 (whole_take (rep_len h168 rfl)) (rep_len h168 rfl)) ?_
              obtain ⟨t176, ht177, hm1⟩ := bindSome hm1
              refine o_call hO go5 (switchboardlaw23_tell_ok hO.sub h168 ht177) rfl ?_
              rintro _ H178 w179 le180 ⟨cs181, rfl, h182⟩ hO
              refine o_stP 0 (.agg cs181.toArray) hO rfl (Enc.mono _ le180 h168) (Lens.refl _) f3_5 rfl rfl h182 siz34 ?_
              intro cs183 w184 (hr185 : Enc.rep eSwitchboardlaw23Net H178 cs183 t176) hO
              refine WL.nil ?_
              refine W.region ?_
              refine WL.val (x_move (.int .i64 v165) f8_5) ?_
              refine WL.val (x_add rfl rfl) ?_
              refine WL.val (x_assign (.int .i64 (i64w (v165 + 1))) rfl) ?_
              refine WL.nil ?_
              exact ⟨_, Nat.lt_succ_self _, rest163, i64w (v165 + 1), t176, cs183, H178, rfl, hm1, (le161.trans le180), hO.pick _ ⟨rfl, trivial⟩, f3_5, rfl, hr185⟩
            · intro hb175 hm1
              refine W.exit _ rfl ?_
              obtain rfl := Option.some.inj hm1
              exact ⟨v165, v166, cs167, H160, rfl, le161, hO.pick _ ⟨rfl, trivial⟩, f3_5, h168⟩
        · intro r w
          rintro ⟨v188, v189, cs190, H186, rfl, le187, hO, f193, h191⟩
          dsimp only at hm0
          refine W.seq ?_
          refine W.seq ?_
          refine W.region ?_
          refine WL.val (x_fa f193 fo34_5) ?_
          obtain ⟨cs194, hr195, hc196⟩ := lSwitchboardlaw23Net_sent.part _ _ _ h191
          obtain rfl := hr195
          refine WL.val (x_ld 0 (.int .i64 v189.sent) hO rfl rfl (hc196 0 _ rfl) one3) ?_
          refine WL.val (x_move (.int .i64 0) rfl) ?_
          refine WL.nil ?_
          obtain ⟨hlim6, hm0⟩ := chk hm0
          obtain ⟨o197, hm1, hm0⟩ := bindSome hm0
          have hO := hO.pick [(0, .blk g1 cs190 34)] ⟨rfl, trivial⟩
          refine W.blockLoop (fun r w => ∃ (i200 : Nat) (H198 : IHeap), .out () = o197 ∧ Le H186 H198 ∧ St w0 H0 [] H198 (ol [(0, .blk g1 cs190 34)]) w ∧ r 3 = (.pointer (some ⟨g1, 0, none⟩))) (fun k r w => ∃ (i200 : Nat) (rest201 : Nat) (H198 : IHeap), rest201 = k ∧ Int.toNat (v189.sent - (i200 : Int)) = rest201 ∧ switchboardlaw23_PortOnce_l6 v189 rest201 i200 = some o197 ∧ Le H186 H198 ∧ St w0 H0 [] H198 (ol [(0, .blk g1 cs190 34)]) w ∧ r 3 = (.pointer (some ⟨g1, 0, none⟩)) ∧ r 98 = (.int .i64 v189.sent) ∧ r 99 = (.int .i64 (i200 : Int))) (Int.toNat v189.sent) ?_ ?_ ?_
          · exact ⟨0, _, _, rfl, cnt_init _, hm1, Le.refl _, hO, f193, rfl, rfl⟩
          ·
            intro k r w
            rintro ⟨i200, rest201, H198, rfl, hd203, hm1, le199, hO, f3_6, f98_6, f99_6⟩
            cases rest201 with
            | zero =>
              rw [switchboardlaw23_PortOnce_l6] at hm1
              have hlt := cnt_zero hd203
              refine W.seq ?_
              refine W.region ?_
              refine WL.val (x_lss f99_6 f98_6) ?_
              refine WL.nil ?_
              refine W.seq ?_
              refine W.cond_f (kb rfl hlt) ?_
              refine W.exit _ rfl ?_
              obtain rfl := Option.some.inj hm1
              exact ⟨i200, H198, rfl, le199, hO.pick _ ⟨rfl, trivial⟩, f3_6⟩
            | succ rest201 =>
              rw [switchboardlaw23_PortOnce_l6] at hm1
              have hlt := cnt_lt hd203
              have hnx := cnt_next hd203
              have hinc := inc_lim hlt hlim6
              refine W.seq ?_
              refine W.region ?_
              refine WL.val (x_lss f99_6 f98_6) ?_
              refine WL.nil ?_
              refine W.seq ?_
              refine W.cond_t (kb rfl hlt) ?_
              refine W.skip ?_
              refine W.seq ?_
              refine W.block ?_
              refine W.seq ?_
              refine W.region ?_
              refine WL.val (x_move (.int .i64 (i200 : Int)) f99_6) ?_
              refine WL.val (x_assign (.int .i64 (i200 : Int)) rfl) ?_
              refine WL.nil ?_
              refine W.seq ?_
              refine W.region ?_
              refine WL.val (x_move (.int .i64 (i200 : Int)) rfl) ?_
              refine WL.val (x_fa f3_6 fo34_4) ?_
              obtain ⟨hin204, hm1⟩ := chk hm1
              refine WL.val (x_iaArr rfl rfl are32 hin204) ?_
              obtain ⟨cs205, hr206, hc207⟩ := (Part.comp lSwitchboardlaw23Net_got.part ((lens_idx (n := 256) (eInt .i64) hin204).part)) _ _ _ (Enc.mono _ le199 h191)
              obtain rfl := hr206
              refine WL.val (x_ld 0 (.int .i64 (at0 v189.got (i200 : Int))) hO rfl rfl (hc207 0 _ rfl) one3) ?_
              refine WL.val (x_neq rfl rfl) ?_
              refine WL.nil ?_
              refine W.test rfl hm1 ?_ ?_
              · intro hb208 hm1
                refine W.seq ?_
                refine W.region ?_
                refine WL.val (x_assign (.bool false) rfl) ?_
                refine WL.nil ?_
                refine W.ret ?_
                obtain rfl := Option.some.inj hm1
                dsimp only at hm0
                obtain rfl := Option.some.inj hm0
                exact ⟨H198, rfl, hO.done⟩
              · intro hb208 hm1
                refine W.skip ?_
                refine W.region ?_
                refine WL.val (x_add f99_6 rfl) ?_
                refine WL.val (x_move (.int .i64 (i64w ((i200 : Int) + 1))) rfl) ?_
                refine WL.nil ?_
                exact ⟨_, Nat.lt_succ_self _, i200 + 1, rest201, H198, rfl, hnx, hm1, le199, hO.pick _ ⟨rfl, trivial⟩, f3_6, f98_6, (incv hinc)⟩
          · intro r w
            rintro ⟨i211, H209, rfl, le210, hO, f212⟩
            dsimp only at hm0
            refine W.seq ?_
            refine W.region ?_
            refine WL.val (x_fa f212 fo34_0) ?_
            refine WL.val (x_fa rfl fo30_0) ?_
            refine WL.val (x_fa rfl fo25_1) ?_
            obtain ⟨cs213, hr214, hc215⟩ := (Part.comp lSwitchboardlaw23Net_a.part (Part.comp pPortPort_Link pLinkLink_Queue)) _ _ _ (Enc.mono _ le210 h191)
            obtain ⟨A216, c217, rfl, h218⟩ := hr214
            refine WL.val (x_ld 0 (.slice A216 v189.a.Link.Queue.length c217) hO rfl rfl (hc215 0 _ rfl) one23) ?_
            refine WL.val (x_len rfl Try.underlying23) ?_
            refine WL.val (x_eql rfl rfl) ?_
            refine WL.val (x_move (.bool ((v189.a.Link.Queue.length : Int) == 0)) rfl) ?_
            refine WL.gval rfl rfl (fun hb => x_fa f212 fo34_2) ?_
            obtain ⟨cs219, hr220, hc221⟩ := lSwitchboardlaw23Net_there.part _ _ _ (Enc.mono _ le210 h191)
            obtain ⟨A222, c223, rfl, h224⟩ := hr220
            refine WL.gval rfl rfl (fun hb => x_ld 0 (.slice A222 v189.there.length c223) hO rfl (gv hb) (hc221 0 _ rfl) one31) ?_
            refine WL.gval rfl rfl (fun hb => x_len (gv hb) Try.underlying31) ?_
            refine WL.gval rfl rfl (fun hb => x_eql (gv hb) rfl) ?_
            refine WL.val (x_pick rfl (.bool (((v189.a.Link.Queue.length : Int) == 0) && ((v189.there.length : Int) == 0))) pick_and) ?_
            refine WL.val (x_move (.bool (((v189.a.Link.Queue.length : Int) == 0) && ((v189.there.length : Int) == 0))) rfl) ?_
            rcases btest hm0 with ⟨hb225, hm0⟩ | ⟨hb225, hm0⟩
            · refine WL.yes rfl (kb rfl hb225) ?_
              obtain ⟨t226, ht227, hm0⟩ := bindSome hm0
              refine o_call hO go8 (switchboardlaw23_awake_ok hO.sub  ht227) rfl ?_
              rintro _ H228 w229 le230 rfl hO
              refine WL.val (x_pick_t (kb rfl hb225) (.bool t226) rfl) ?_
              refine WL.val (x_assign (.bool t226) rfl) ?_
              refine WL.nil ?_
              refine W.ret ?_
              obtain rfl := Option.some.inj hm0
              exact ⟨H228, rfl, hO.done⟩
            · refine WL.no rfl (kb rfl hb225) rfl ?_
              refine WL.val (x_pick_f (kb rfl hb225) (.bool false) rfl) ?_
              refine WL.val (x_assign (.bool false) rfl) ?_
              refine WL.nil ?_
              refine W.ret ?_
              obtain rfl := Option.some.inj hm0
              exact ⟨H209, rfl, hO.done⟩

end Go.Sw

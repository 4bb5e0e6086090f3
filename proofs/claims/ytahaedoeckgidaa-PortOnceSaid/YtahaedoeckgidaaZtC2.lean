/- The calls compute the mirrors. -/
import Derived.Test.YtahaedoeckgidaaZtC1
set_option linter.unusedVariables false
set_option linter.unusedSimpArgs false
set_option maxRecDepth 100000
namespace Go.Sw
open Go.Proofs

theorem port_Again_ok {w0 : World} {H0 : IHeap} (hS : Sub H0 w0) {p0 : PortPort}  {A1_ : Option Addr} {c1_ : Nat} {A2_ : Option Addr} {c2_ : Nat} (h1_ : RS eLinkFrame H0 A1_ c1_ p0.Link.Queue) (h2_ : RS (eInt .i64) H0 A2_ c2_ p0.Window.Seen) {res : (List Str)} (hm0 : port_Again p0 = some res) :
    Ok Try.prog 6 [(.agg ([(.int .i64 p0.Link.Next), (.slice A1_ p0.Link.Queue.length c1_), (.int .i64 p0.Window.Low), (.slice A2_ p0.Window.Seen.length c2_)] : List Value).toArray)].toArray w0 H0 (fun H' v => ∃ (A1 : Option Addr) (c1 : Nat), v = (.slice A1 res.length c1) ∧ RS eStr H' A1 c1 res) := by
  unfold port_Again at hm0
  refine ok_of_W Try.func6 rfl Try.ntmps6 (ts := [2]) rfl rfl rfl ?_
  have hO := St.start hS
  refine W.seq ?_
  refine W.region ?_
  refine o_box 0 [(.int .i64 p0.Link.Next), (.slice A1_ p0.Link.Queue.length c1_), (.int .i64 p0.Window.Low), (.slice A2_ p0.Window.Seen.length c2_)] hO rfl ?_
  intro g1 w2 hO
  refine WL.val (x_assign (.slice none 0 0) rfl) ?_
  refine WL.nil ?_
  refine W.seq ?_
  refine W.region ?_
  refine WL.val (x_assign (.slice none 0 0) rfl) ?_
  refine WL.nil ?_
  refine W.seq ?_
  refine W.seq ?_
  refine W.region ?_
  refine WL.val (x_fa rfl fo30_0) ?_
  refine WL.val (x_fa rfl fo25_1) ?_
  refine WL.val (x_ld 0 (.slice A1_ p0.Link.Queue.length c1_) hO rfl rfl rfl one23) ?_
  refine WL.val (x_len rfl Try.underlying23) ?_
  refine WL.val (x_move (.int .i64 0) rfl) ?_
  refine WL.nil ?_
  have hO := hO.nilRowT (α := Str) 1 none 9 eStr
  obtain ⟨o3, hm1, hm0⟩ := bindSome hm0
  have hO := hO.pick [(1, .row none 0 9 eStr.size ([] : List Str).length [])] ⟨rfl, trivial⟩
  refine W.blockLoop (fun r w => ∃ (v9 : List Str) (A10 : Option Addr) (c11 : Nat) (cs12 : List Value) (i6 : Nat) (H4 : IHeap), v9 = o3 ∧ Le H0 H4 ∧ St w0 H0 [] H4 (ol [(1, .row A10 c11 9 eStr.size v9.length cs12)]) w ∧ r 3 = (.slice A10 v9.length c11) ∧ Rows eStr H4 cs12 v9) (fun k r w => ∃ (i6 : Nat) (rest7 : List LinkFrame) (v9 : List Str) (A10 : Option Addr) (c11 : Nat) (cs12 : List Value) (H4 : IHeap), k = rest7.length ∧ List.drop i6 p0.Link.Queue = rest7 ∧ port_Again_l1 rest7 i6 v9 = some o3 ∧ Le H0 H4 ∧ St w0 H0 [] H4 (ol [(1, .row A10 c11 9 eStr.size v9.length cs12)]) w ∧ r 3 = (.slice A10 v9.length c11) ∧ r 10 = (.slice A1_ p0.Link.Queue.length c1_) ∧ r 11 = (.int .i64 (p0.Link.Queue.length : Int)) ∧ r 12 = (.int .i64 (i6 : Int)) ∧ Rows eStr H4 cs12 v9) (List.length p0.Link.Queue) ?_ ?_ ?_
  · exact ⟨0, _, ([] : List Str), none, 0, [], _, rfl, rfl, hm1, Le.refl _, hO, rfl, rfl, rfl, rfl, Rows.nil⟩
  ·
    intro k r w
    rintro ⟨i6, rest7, v9, A10, c11, cs12, H4, rfl, hd14, hm1, le5, hO, f3_1, f10_1, f11_1, f12_1, h13⟩
    cases rest7 with
    | nil =>
      rw [port_Again_l1] at hm1
      have hlt := drop_nil hd14
      refine W.seq ?_
      refine W.region ?_
      refine WL.val (x_lss f12_1 f11_1) ?_
      refine WL.nil ?_
      refine W.seq ?_
      refine W.cond_f (kb rfl hlt) ?_
      refine W.exit _ rfl ?_
      obtain rfl := Option.some.inj hm1
      exact ⟨v9, A10, c11, cs12, i6, H4, rfl, le5, hO.pick _ ⟨rfl, trivial⟩, f3_1, h13⟩
    | cons x8 rest7 =>
      rw [port_Again_l1] at hm1
      have hlt := drop_lt hd14
      have hnx := drop_next hd14
      have hinc := inc_len hlt h1_.1 h1_.2.1
      refine W.seq ?_
      refine W.region ?_
      refine WL.val (x_lss f12_1 f11_1) ?_
      refine WL.nil ?_
      refine W.seq ?_
      refine W.cond_t (kb rfl hlt) ?_
      refine W.skip ?_
      refine W.seq ?_
      refine W.block ?_
      refine W.seq ?_
      refine W.region ?_
      obtain ⟨a15, h16, hA17, hin⟩ := RS.atR (h1_.up le5) hd14
      refine WL.val (x_ia (sA f10_1 hA17) f12_1 sle23 hin) ?_
      obtain ⟨cs18, hr19, hc20⟩ := At.agg h16
      obtain rfl := hr19
      refine WL.val (x_ldv rfl (hc20 _ _ _ hO.sub agg50)) ?_
      refine o_alloc 2 _ [(.int .i64 0), (vs [])] zer50 hO rfl ?_
      intro g21 w22 hO
      refine o_sts 2 [(.int .i64 x8.Seq), (vs x8.Text)] hO rfl rfl rfl siz50 rfl (Nat.le_of_ble_eq_true rfl) (by simp [Value.oneCell', vs]) ?_
      intro w23 hO
      refine WL.nil ?_
      refine W.seq ?_
      refine W.region ?_
      refine WL.val (x_fa rfl fo50_0) ?_
      refine WL.val (x_ld 2 (.int .i64 x8.Seq) hO rfl rfl rfl one3) ?_
      refine WL.val (x_fa rfl fo50_1) ?_
      refine WL.val (x_ld 2 (vs x8.Text) hO rfl rfl rfl one9) ?_
      obtain ⟨t24, ht25, hm1⟩ := bindSome hm1
      refine o_call hO go13 (port_Pack_ok hO.sub  ht25) rfl ?_
      rintro _ H26 w27 le28 rfl hO
      refine WL.val (x_move (.tuple ([(vs t24.1), (.int .i64 t24.2)] : List Value).toArray) rfl) ?_
      refine WL.val (x_extract (vs t24.1) rfl rfl) ?_
      refine WL.val (x_extract (.int .i64 t24.2) rfl rfl) ?_
      refine WL.val (x_assign (vs t24.1) rfl) ?_
      refine WL.val (x_assign (.int .i64 t24.2) rfl) ?_
      refine WL.nil ?_
      refine W.seq ?_
      refine W.region ?_
      refine WL.val (x_move (.int .i64 t24.2) rfl) ?_
      refine WL.val (x_eql rfl rfl) ?_
      refine WL.nil ?_
      refine W.test rfl hm1 ?_ ?_
      · intro hb29 hm1
        refine W.region ?_
        refine WL.val (x_move (.slice A10 v9.length c11) f3_1) ?_
        refine WL.val (x_move (vs t24.1) rfl) ?_
        refine o_litT (en := eStr) 3 [(vs t24.1)] ([t24.1] : List Str) hO sli31 ⟨rfl, trivial⟩ rfl rfl rfl ?_
        intro g30 cs31 w32 hr33 hO
        refine o_appT (en := eStr) (xs := v9) (ys := ([t24.1] : List Str)) 1 hO rfl (h13.up le28) rfl rfl (Src.row (k := 3) hO rfl) hr33 sli31 rfl rfl Try.underlying31 hm1 ?_
        intro A34 c35 cs36 w37 hr38 hO hm1
        refine WL.val (x_assign (.slice A34 (v9 ++ ([t24.1] : List Str)).length c35) rfl) ?_
        refine WL.nil ?_
        refine W.region ?_
        refine WL.val (x_add f12_1 rfl) ?_
        refine WL.val (x_move (.int .i64 (i64w ((i6 : Int) + 1))) rfl) ?_
        refine WL.nil ?_
        exact ⟨_, Nat.lt_succ_self _, i6 + 1, rest7, (v9 ++ ([t24.1] : List Str)), A34, c35, cs36, H26, rfl, hnx, hm1, (le5.trans le28), hO.pick _ ⟨rfl, trivial⟩, rfl, f10_1, f11_1, (incv hinc), hr38⟩
      · intro hb29 hm1
        refine W.skip ?_
        refine W.region ?_
        refine WL.val (x_add f12_1 rfl) ?_
        refine WL.val (x_move (.int .i64 (i64w ((i6 : Int) + 1))) rfl) ?_
        refine WL.nil ?_
        exact ⟨_, Nat.lt_succ_self _, i6 + 1, rest7, v9, A10, c11, cs12, H26, rfl, hnx, hm1, (le5.trans le28), hO.pick _ ⟨rfl, trivial⟩, f3_1, f10_1, f11_1, (incv hinc), (h13.up le28)⟩
  · intro r w
    rintro ⟨v41, A42, c43, cs45, i46, H39, rfl, le40, hO, f47, h44⟩
    refine W.seq ?_
    refine W.region ?_
    refine WL.val (x_move (.slice A42 v41.length c43) f47) ?_
    refine WL.val (x_assign (.slice A42 v41.length c43) rfl) ?_
    refine WL.nil ?_
    refine W.ret ?_
    obtain ⟨H48, le49, h50, hO⟩ := hO.freezeRow (en := eStr) 1 rfl rfl rfl h44
    obtain rfl := Option.some.inj hm0
    exact ⟨H48, ⟨A42, c43, rfl, h50⟩, hO.done⟩

theorem switchboardlaw23_deliver_ok {w0 : World} {H0 : IHeap} (hS : Sub H0 w0) {p0 : Switchboardlaw23Net} {p1 : Int} {p2 : Bool}  {cs1_ : List Value} (h1_ : Enc.rep eSwitchboardlaw23Net H0 cs1_ p0) {res : Switchboardlaw23Net} (hm0 : switchboardlaw23_deliver p0 p1 p2 = some res) :
    Ok Try.prog 7 [(.agg cs1_.toArray), (.int .i64 p1), (.bool p2)].toArray w0 H0 (fun H' v => ∃ (cs1 : List Value), v = (.agg cs1.toArray) ∧ Enc.rep eSwitchboardlaw23Net H' cs1 res) := by
  unfold switchboardlaw23_deliver at hm0
  refine OkO.ok (okO_of_W Try.func7 rfl Try.ntmps7 (rs := [.cell 6 34]) rfl rfl ?_)
  have hO := St.start hS
  refine W.seq ?_
  refine W.region ?_
  refine o_box 0 cs1_ hO rfl ?_
  intro g1 w2 hO
  refine o_alloc 1 _ zc34 zer34 hO rfl ?_
  intro g3 w4 hO
  refine WL.nil ?_
  refine W.seq ?_
  refine W.seq ?_
  refine W.region ?_
  refine WL.val (x_fa rfl fo34_2) ?_
  obtain ⟨cs5, hr6, hc7⟩ := lSwitchboardlaw23Net_there.part _ _ _ h1_
  obtain ⟨A8, c9, rfl, h10⟩ := hr6
  refine WL.val (x_ld 0 (.slice A8 p0.there.length c9) hO rfl rfl (hc7 0 _ rfl) one31) ?_
  refine WL.val (x_len rfl Try.underlying31) ?_
  refine WL.val (x_eql rfl rfl) ?_
  refine WL.nil ?_
  refine W.test rfl hm0 ?_ ?_
  · intro hb11 hm0
    refine W.seq ?_
    refine W.region ?_
    refine WL.val (x_lds 0 cs1_ hO rfl rfl agg34 (whole_take (rep_len h1_ rfl)) (rep_len h1_ rfl)) ?_
    refine o_stP 1 (.agg cs1_.toArray) hO rfl (zr34 _) (Lens.refl _) rfl rfl rfl h1_ siz34 ?_
    intro cs12 w13 (hr14 : Enc.rep eSwitchboardlaw23Net H0 cs12 p0) hO
    refine WL.nil ?_
    refine W.ret ?_
    obtain rfl := Option.some.inj hm0
    exact ⟨[(.agg cs12.toArray)], ⟨⟨_, rfl, hO.ldBlk 1 rfl agg34 (whole_take (rep_len hr14 rfl)) (rep_len hr14 rfl)⟩, trivial⟩, H0, _, ⟨cs12, rfl, hr14⟩, hO⟩
  · intro hb11 hm0
    refine W.skip ?_
    refine W.seq ?_
    refine W.region ?_
    refine WL.val (x_move (.int .i64 p1) rfl) ?_
    refine WL.val (x_fa rfl fo34_2) ?_
    obtain ⟨cs15, hr16, hc17⟩ := lSwitchboardlaw23Net_there.part _ _ _ h1_
    obtain ⟨A18, c19, rfl, h20⟩ := hr16
    refine WL.val (x_ld 0 (.slice A18 p0.there.length c19) hO rfl rfl (hc17 0 _ rfl) one31) ?_
    refine WL.val (x_len rfl Try.underlying31) ?_
    obtain ⟨hz21, hm0⟩ := chk hm0
    refine WL.val (x_rem rfl rfl (nz hz21)) ?_
    refine WL.val (x_assign (.int .i64 (Int.tmod p1 (p0.there.length : Int))) rfl) ?_
    refine WL.nil ?_
    refine W.seq ?_
    refine W.draw (SD w0 H0 [] H0 [(0, .blk g1 cs1_ 34), (1, .blk g3 zc34 34)]) (fun i => ([] : List Nat).contains i) mixed 20 rfl _ rfl ?_
    intro w22 hh1 hh2 hh3 hh4; have hO := hO.same hh1 hh2 hh3 hh4; clear hh1 hh2 hh3 hh4
    have hS : SD w0 H0 [] H0 [(0, .blk g1 cs1_ 34), (1, .blk g3 zc34 34)] w22 := ⟨_, _, Le.refl _, hO, ⟨rfl, rfl, trivial⟩⟩
    refine WA.take (i := 0) rfl (by kernel_rfl) (fun w hS => x_fa rfl fo34_1) hS ?_
    obtain ⟨cs23, hr24, hc25⟩ := lSwitchboardlaw23Net_b.part _ _ _ h1_
    obtain ⟨A26, c27, A29, c30, rfl, h28, h31⟩ := hr24
    refine WA.take (i := 1) rfl (by kernel_rfl) (fun w hS => x_ldsD 0 [(.int .i64 p0.b.Link.Next), (.slice A26 p0.b.Link.Queue.length c27), (.int .i64 p0.b.Window.Low), (.slice A29 p0.b.Window.Seen.length c30)] hS rfl rfl agg30 (take_of_part hc25 rfl) rfl) hS ?_
    refine WA.take (i := 2) rfl (by kernel_rfl) (fun w hS => x_fa rfl fo34_2) hS ?_
    obtain ⟨cs32, hr33, hc34⟩ := lSwitchboardlaw23Net_there.part _ _ _ h1_
    obtain ⟨A35, c36, rfl, h37⟩ := hr33
    refine WA.take (i := 3) rfl (by kernel_rfl) (fun w hS => x_ldD 0 (.slice A35 p0.there.length c36) hS rfl rfl (hc34 0 _ rfl) one31) hS ?_
    refine WA.take (i := 4) rfl (by kernel_rfl) (fun w hS => x_move (.int .i64 (Int.tmod p1 (p0.there.length : Int))) rfl) hS ?_
    obtain ⟨hin41, hm0⟩ := chk hm0
    obtain ⟨a38, h39, hA40⟩ := RS.at_ h37 hin41
    refine WA.take (i := 5) rfl (by kernel_rfl) (fun w hS => x_ia (sA rfl hA40) rfl sle31 hin41) hS ?_
    refine WA.take (i := 6) rfl (by kernel_rfl) (fun w hS => x_ldc rfl (h39.str _ hS.sub) one9) hS ?_
    obtain ⟨t42, ht43, hm0⟩ := bindSome hm0
    refine WA.all [7, 14] (by kernel_rfl) (by simp) ?_
    intro i hi; simp only [List.mem_cons, List.not_mem_nil, or_false] at hi
    rcases hi with rfl | rfl
    · refine ⟨_, rfl, ?_⟩
      refine o_call hO go12 (port_Receive_ok hO.sub h28 h31 ht43) rfl ?_
      rintro _ H44 w45 le46 ⟨A47, c48, A50, c51, rfl, h49, h52⟩ hO
      have hS : SD w0 H0 [] H0 [(0, .blk g1 cs1_ 34), (1, .blk g3 zc34 34)] _ := ⟨_, _, le46, hO, ⟨rfl, rfl, trivial⟩⟩
      refine WL.nil ⟨fun _ => hS, ?_⟩
      refine WA.take (i := 8) rfl (by kernel_rfl) (fun w hS => x_move (.tuple ([(.agg ([(.int .i64 t42.1.Link.Next), (.slice A47 t42.1.Link.Queue.length c48), (.int .i64 t42.1.Window.Low), (.slice A50 t42.1.Window.Seen.length c51)] : List Value).toArray), (vs t42.2.1), (.bool t42.2.2.1), (vs t42.2.2.2.1), (.int .i64 t42.2.2.2.2)] : List Value).toArray) rfl) hS ?_
      refine WA.take (i := 9) rfl (by kernel_rfl) (fun w hS => x_extract (.agg ([(.int .i64 t42.1.Link.Next), (.slice A47 t42.1.Link.Queue.length c48), (.int .i64 t42.1.Window.Low), (.slice A50 t42.1.Window.Seen.length c51)] : List Value).toArray) rfl rfl) hS ?_
      refine WA.take (i := 10) rfl (by kernel_rfl) (fun w hS => x_extract (vs t42.2.1) rfl rfl) hS ?_
      refine WA.take (i := 11) rfl (by kernel_rfl) (fun w hS => x_extract (.bool t42.2.2.1) rfl rfl) hS ?_
      refine WA.take (i := 12) rfl (by kernel_rfl) (fun w hS => x_extract (vs t42.2.2.2.1) rfl rfl) hS ?_
      refine WA.take (i := 13) rfl (by kernel_rfl) (fun w hS => x_extract (.int .i64 t42.2.2.2.2) rfl rfl) hS ?_
      refine WA.only (i := 14) (by kernel_rfl) rfl ?_
      refine o_alloc 2 _ [(.int .i64 0), (.slice none 0 0), (.int .i64 0), (.slice none 0 0)] zer30 hO rfl ?_
      intro g53 w54 hO
      have hS : SD w0 H0 [] H0 [(0, .blk g1 cs1_ 34), (1, .blk g3 zc34 34)] _ := ⟨_, _, le46, hO, ⟨rfl, rfl, trivial⟩⟩
      refine WL.nil ⟨fun _ => hS, ?_⟩
      refine WA.only (i := 15) (by kernel_rfl) rfl ?_
      refine o_sts 2 [(.int .i64 t42.1.Link.Next), (.slice A47 t42.1.Link.Queue.length c48), (.int .i64 t42.1.Window.Low), (.slice A50 t42.1.Window.Seen.length c51)] hO rfl rfl rfl siz30 rfl (Nat.le_of_ble_eq_true rfl) (by simp [Value.oneCell', vs]) ?_
      intro w55 hO
      have hS : SD w0 H0 [] H0 [(0, .blk g1 cs1_ 34), (1, .blk g3 zc34 34)] _ := ⟨_, _, le46, hO, ⟨rfl, rfl, trivial⟩⟩
      refine WL.nil ⟨fun _ => hS, ?_⟩
      refine WA.take (i := 16) rfl (by kernel_rfl) (fun w hS => x_assign (vs t42.2.1) rfl) hS ?_
      refine WA.take (i := 17) rfl (by kernel_rfl) (fun w hS => x_assign (.bool t42.2.2.1) rfl) hS ?_
      refine WA.take (i := 18) rfl (by kernel_rfl) (fun w hS => x_assign (vs t42.2.2.2.1) rfl) hS ?_
      refine WA.take (i := 19) rfl (by kernel_rfl) (fun w hS => x_assign (.int .i64 t42.2.2.2.2) rfl) hS ?_
      refine WA.done (by kernel_rfl) ?_
      refine W.seq ?_
      refine W.region ?_
      refine WL.val (x_lds 2 [(.int .i64 t42.1.Link.Next), (.slice A47 t42.1.Link.Queue.length c48), (.int .i64 t42.1.Window.Low), (.slice A50 t42.1.Window.Seen.length c51)] hO rfl rfl agg30 rfl rfl) ?_
      refine WL.val (x_fa rfl fo34_1) ?_
      refine o_stP 0 (.agg ([(.int .i64 t42.1.Link.Next), (.slice A47 t42.1.Link.Queue.length c48), (.int .i64 t42.1.Window.Low), (.slice A50 t42.1.Window.Seen.length c51)] : List Value).toArray) hO rfl (Enc.mono _ le46 h1_) lSwitchboardlaw23Net_b rfl rfl rfl ⟨A47, c48, A50, c51, rfl, h49, h52⟩ siz30 ?_
      intro cs56 w57 (hr58 : Enc.rep eSwitchboardlaw23Net H44 cs56 ({ p0 with b := (⟨(⟨t42.1.Link.Next, t42.1.Link.Queue⟩ : LinkLink), (⟨t42.1.Window.Low, t42.1.Window.Seen⟩ : WindowWindow)⟩ : PortPort) } : Switchboardlaw23Net)) hO
      refine WL.nil ?_
      refine W.seq ?_
      refine W.seq ?_
      refine W.region ?_
      refine WL.val (x_move (.bool t42.2.2.1) rfl) ?_
      refine WL.val (x_move (.bool t42.2.2.1) rfl) ?_
      refine WL.gval rfl rfl (fun hb => x_move (vs t42.2.1) rfl) ?_
      refine WL.gval rfl rfl (fun hb => x_lens (gv hb) Try.underlying9) ?_
      refine WL.gval rfl rfl (fun hb => x_eql (gv hb) rfl) ?_
      refine WL.val (x_pick rfl (.bool (t42.2.2.1 && ((t42.2.1.length : Int) == 2))) pick_and) ?_
      refine WL.nil ?_
      refine W.test rfl hm0 ?_ ?_
      · intro hb59 hm0
        refine W.region ?_
        refine WL.val (x_move (vs t42.2.1) rfl) ?_
        obtain ⟨hz60, hm0⟩ := chk hm0
        refine WL.val (x_idx Try.underlying9 rfl rfl hz60) ?_
        refine WL.val (x_fa rfl fo34_4) ?_
        obtain ⟨hin61, hm0⟩ := chk hm0
        refine WL.val (x_iaArr rfl rfl are32 hin61) ?_
        obtain ⟨cs62, hr63, hc64⟩ := (Part.comp lSwitchboardlaw23Net_got.part ((lens_idx (n := 256) (eInt .i64) hin61).part)) _ _ _ hr58
        obtain rfl := hr63
        refine WL.val (x_ld 0 (.int .i64 (at0 (({ p0 with b := (⟨(⟨t42.1.Link.Next, t42.1.Link.Queue⟩ : LinkLink), (⟨t42.1.Window.Low, t42.1.Window.Seen⟩ : WindowWindow)⟩ : PortPort) } : Switchboardlaw23Net).got) (chr t42.2.1 1))) hO rfl rfl (hc64 0 _ rfl) one3) ?_
        refine WL.val (x_add rfl rfl) ?_
        refine WL.val (x_fa rfl fo34_4) ?_
        obtain ⟨hin65, hm0⟩ := chk hm0
        refine WL.val (x_iaArr rfl rfl are32 hin65) ?_
        refine o_stP 0 (.int .i64 (i64w ((at0 (({ p0 with b := (⟨(⟨t42.1.Link.Next, t42.1.Link.Queue⟩ : LinkLink), (⟨t42.1.Window.Low, t42.1.Window.Seen⟩ : WindowWindow)⟩ : PortPort) } : Switchboardlaw23Net).got) (chr t42.2.1 1)) + 1))) hO rfl hr58 (Lens.comp lSwitchboardlaw23Net_got (lens_idx (n := 256) (eInt .i64) hin65)) rfl rfl rfl rfl siz3 ?_
        intro cs66 w67 (hr68 : Enc.rep eSwitchboardlaw23Net H44 cs66 ({ ({ p0 with b := (⟨(⟨t42.1.Link.Next, t42.1.Link.Queue⟩ : LinkLink), (⟨t42.1.Window.Low, t42.1.Window.Seen⟩ : WindowWindow)⟩ : PortPort) } : Switchboardlaw23Net) with got := (List.set (({ p0 with b := (⟨(⟨t42.1.Link.Next, t42.1.Link.Queue⟩ : LinkLink), (⟨t42.1.Window.Low, t42.1.Window.Seen⟩ : WindowWindow)⟩ : PortPort) } : Switchboardlaw23Net).got) (Int.toNat (chr t42.2.1 1)) (i64w ((at0 (({ p0 with b := (⟨(⟨t42.1.Link.Next, t42.1.Link.Queue⟩ : LinkLink), (⟨t42.1.Window.Low, t42.1.Window.Seen⟩ : WindowWindow)⟩ : PortPort) } : Switchboardlaw23Net).got) (chr t42.2.1 1)) + 1))) } : Switchboardlaw23Net)) hO
        refine WL.nil ?_
        refine W.seq ?_
        refine W.seq ?_
        refine W.region ?_
        refine WL.val (x_fa rfl fo34_3) ?_
        obtain ⟨cs69, hr70, hc71⟩ := lSwitchboardlaw23Net_back.part _ _ _ hr68
        obtain ⟨A72, c73, rfl, h74⟩ := hr70
        refine WL.val (x_ld 0 (.slice A72 (({ ({ p0 with b := (⟨(⟨t42.1.Link.Next, t42.1.Link.Queue⟩ : LinkLink), (⟨t42.1.Window.Low, t42.1.Window.Seen⟩ : WindowWindow)⟩ : PortPort) } : Switchboardlaw23Net) with got := (List.set (({ p0 with b := (⟨(⟨t42.1.Link.Next, t42.1.Link.Queue⟩ : LinkLink), (⟨t42.1.Window.Low, t42.1.Window.Seen⟩ : WindowWindow)⟩ : PortPort) } : Switchboardlaw23Net).got) (Int.toNat (chr t42.2.1 1)) (i64w ((at0 (({ p0 with b := (⟨(⟨t42.1.Link.Next, t42.1.Link.Queue⟩ : LinkLink), (⟨t42.1.Window.Low, t42.1.Window.Seen⟩ : WindowWindow)⟩ : PortPort) } : Switchboardlaw23Net).got) (chr t42.2.1 1)) + 1))) } : Switchboardlaw23Net).back).length c73) hO rfl rfl (hc71 0 _ rfl) one31) ?_
        refine WL.val (x_len rfl Try.underlying31) ?_
        refine WL.val (x_lss rfl rfl) ?_
        refine WL.nil ?_
        refine W.test rfl hm0 ?_ ?_
        · intro hb75 hm0
          refine W.region ?_
          refine o_litT (en := eStr) 3 [] ([] : List Str) hO sli31 trivial rfl rfl rfl ?_
          intro g76 cs77 w78 hr79 hO
          refine WL.val (x_fa rfl fo34_3) ?_
          obtain ⟨cs80, hr81, hc82⟩ := lSwitchboardlaw23Net_back.part _ _ _ hr68
          obtain ⟨A83, c84, rfl, h85⟩ := hr81
          refine WL.val (x_ld 0 (.slice A83 (({ ({ p0 with b := (⟨(⟨t42.1.Link.Next, t42.1.Link.Queue⟩ : LinkLink), (⟨t42.1.Window.Low, t42.1.Window.Seen⟩ : WindowWindow)⟩ : PortPort) } : Switchboardlaw23Net) with got := (List.set (({ p0 with b := (⟨(⟨t42.1.Link.Next, t42.1.Link.Queue⟩ : LinkLink), (⟨t42.1.Window.Low, t42.1.Window.Seen⟩ : WindowWindow)⟩ : PortPort) } : Switchboardlaw23Net).got) (Int.toNat (chr t42.2.1 1)) (i64w ((at0 (({ p0 with b := (⟨(⟨t42.1.Link.Next, t42.1.Link.Queue⟩ : LinkLink), (⟨t42.1.Window.Low, t42.1.Window.Seen⟩ : WindowWindow)⟩ : PortPort) } : Switchboardlaw23Net).got) (chr t42.2.1 1)) + 1))) } : Switchboardlaw23Net).back).length c84) hO rfl rfl (hc82 0 _ rfl) one31) ?_
          obtain ⟨cs86, hs87, hr88⟩ := RS.src h85 hO
          refine o_appT (en := eStr) (xs := ([] : List Str)) (ys := ({ ({ p0 with b := (⟨(⟨t42.1.Link.Next, t42.1.Link.Queue⟩ : LinkLink), (⟨t42.1.Window.Low, t42.1.Window.Seen⟩ : WindowWindow)⟩ : PortPort) } : Switchboardlaw23Net) with got := (List.set (({ p0 with b := (⟨(⟨t42.1.Link.Next, t42.1.Link.Queue⟩ : LinkLink), (⟨t42.1.Window.Low, t42.1.Window.Seen⟩ : WindowWindow)⟩ : PortPort) } : Switchboardlaw23Net).got) (Int.toNat (chr t42.2.1 1)) (i64w ((at0 (({ p0 with b := (⟨(⟨t42.1.Link.Next, t42.1.Link.Queue⟩ : LinkLink), (⟨t42.1.Window.Low, t42.1.Window.Seen⟩ : WindowWindow)⟩ : PortPort) } : Switchboardlaw23Net).got) (chr t42.2.1 1)) + 1))) } : Switchboardlaw23Net).back) 3 hO rfl hr79 rfl rfl hs87 hr88 sli31 rfl rfl Try.underlying31 hm0 ?_
          intro A89 c90 cs91 w92 hr93 hO hm0
          refine WL.val (x_move (vs t42.2.2.2.1) rfl) ?_
          refine o_litT (en := eStr) 4 [(vs t42.2.2.2.1)] ([t42.2.2.2.1] : List Str) hO sli31 ⟨rfl, trivial⟩ rfl rfl rfl ?_
          intro g94 cs95 w96 hr97 hO
          refine o_appT (en := eStr) (xs := (([] : List Str) ++ ({ ({ p0 with b := (⟨(⟨t42.1.Link.Next, t42.1.Link.Queue⟩ : LinkLink), (⟨t42.1.Window.Low, t42.1.Window.Seen⟩ : WindowWindow)⟩ : PortPort) } : Switchboardlaw23Net) with got := (List.set (({ p0 with b := (⟨(⟨t42.1.Link.Next, t42.1.Link.Queue⟩ : LinkLink), (⟨t42.1.Window.Low, t42.1.Window.Seen⟩ : WindowWindow)⟩ : PortPort) } : Switchboardlaw23Net).got) (Int.toNat (chr t42.2.1 1)) (i64w ((at0 (({ p0 with b := (⟨(⟨t42.1.Link.Next, t42.1.Link.Queue⟩ : LinkLink), (⟨t42.1.Window.Low, t42.1.Window.Seen⟩ : WindowWindow)⟩ : PortPort) } : Switchboardlaw23Net).got) (chr t42.2.1 1)) + 1))) } : Switchboardlaw23Net).back)) (ys := ([t42.2.2.2.1] : List Str)) 3 hO rfl hr93 rfl rfl (Src.row (k := 4) hO rfl) hr97 sli31 rfl rfl Try.underlying31 hm0 ?_
          intro A98 c99 cs100 w101 hr102 hO hm0
          refine WL.val (x_fa rfl fo34_3) ?_
          obtain ⟨H103, le104, h105, hO⟩ := hO.freezeRow (en := eStr) 3 rfl rfl rfl hr102
          refine o_stP 0 (.slice A98 ((([] : List Str) ++ ({ ({ p0 with b := (⟨(⟨t42.1.Link.Next, t42.1.Link.Queue⟩ : LinkLink), (⟨t42.1.Window.Low, t42.1.Window.Seen⟩ : WindowWindow)⟩ : PortPort) } : Switchboardlaw23Net) with got := (List.set (({ p0 with b := (⟨(⟨t42.1.Link.Next, t42.1.Link.Queue⟩ : LinkLink), (⟨t42.1.Window.Low, t42.1.Window.Seen⟩ : WindowWindow)⟩ : PortPort) } : Switchboardlaw23Net).got) (Int.toNat (chr t42.2.1 1)) (i64w ((at0 (({ p0 with b := (⟨(⟨t42.1.Link.Next, t42.1.Link.Queue⟩ : LinkLink), (⟨t42.1.Window.Low, t42.1.Window.Seen⟩ : WindowWindow)⟩ : PortPort) } : Switchboardlaw23Net).got) (chr t42.2.1 1)) + 1))) } : Switchboardlaw23Net).back) ++ ([t42.2.2.2.1] : List Str)).length c99) hO rfl (Enc.mono _ le104 hr68) lSwitchboardlaw23Net_back rfl rfl rfl ⟨A98, c99, rfl, h105⟩ siz31 ?_
          intro cs106 w107 (hr108 : Enc.rep eSwitchboardlaw23Net H103 cs106 ({ ({ ({ p0 with b := (⟨(⟨t42.1.Link.Next, t42.1.Link.Queue⟩ : LinkLink), (⟨t42.1.Window.Low, t42.1.Window.Seen⟩ : WindowWindow)⟩ : PortPort) } : Switchboardlaw23Net) with got := (List.set (({ p0 with b := (⟨(⟨t42.1.Link.Next, t42.1.Link.Queue⟩ : LinkLink), (⟨t42.1.Window.Low, t42.1.Window.Seen⟩ : WindowWindow)⟩ : PortPort) } : Switchboardlaw23Net).got) (Int.toNat (chr t42.2.1 1)) (i64w ((at0 (({ p0 with b := (⟨(⟨t42.1.Link.Next, t42.1.Link.Queue⟩ : LinkLink), (⟨t42.1.Window.Low, t42.1.Window.Seen⟩ : WindowWindow)⟩ : PortPort) } : Switchboardlaw23Net).got) (chr t42.2.1 1)) + 1))) } : Switchboardlaw23Net) with back := ((([] : List Str) ++ ({ ({ p0 with b := (⟨(⟨t42.1.Link.Next, t42.1.Link.Queue⟩ : LinkLink), (⟨t42.1.Window.Low, t42.1.Window.Seen⟩ : WindowWindow)⟩ : PortPort) } : Switchboardlaw23Net) with got := (List.set (({ p0 with b := (⟨(⟨t42.1.Link.Next, t42.1.Link.Queue⟩ : LinkLink), (⟨t42.1.Window.Low, t42.1.Window.Seen⟩ : WindowWindow)⟩ : PortPort) } : Switchboardlaw23Net).got) (Int.toNat (chr t42.2.1 1)) (i64w ((at0 (({ p0 with b := (⟨(⟨t42.1.Link.Next, t42.1.Link.Queue⟩ : LinkLink), (⟨t42.1.Window.Low, t42.1.Window.Seen⟩ : WindowWindow)⟩ : PortPort) } : Switchboardlaw23Net).got) (chr t42.2.1 1)) + 1))) } : Switchboardlaw23Net).back) ++ ([t42.2.2.2.1] : List Str)) } : Switchboardlaw23Net)) hO
          refine WL.nil ?_
          refine W.seq ?_
          refine W.seq ?_
          refine W.region ?_
          refine WL.val (x_move (.bool p2) rfl) ?_
          refine WL.val (x_not rfl) ?_
          refine WL.nil ?_
          refine W.test rfl hm0 ?_ ?_
          · intro hb109 hm0
            refine W.region ?_
            refine WL.val (x_fa rfl fo34_2) ?_
            obtain ⟨cs110, hr111, hc112⟩ := lSwitchboardlaw23Net_there.part _ _ _ hr108
            obtain ⟨A113, c114, rfl, h115⟩ := hr111
            refine WL.val (x_ld 0 (.slice A113 (({ ({ ({ p0 with b := (⟨(⟨t42.1.Link.Next, t42.1.Link.Queue⟩ : LinkLink), (⟨t42.1.Window.Low, t42.1.Window.Seen⟩ : WindowWindow)⟩ : PortPort) } : Switchboardlaw23Net) with got := (List.set (({ p0 with b := (⟨(⟨t42.1.Link.Next, t42.1.Link.Queue⟩ : LinkLink), (⟨t42.1.Window.Low, t42.1.Window.Seen⟩ : WindowWindow)⟩ : PortPort) } : Switchboardlaw23Net).got) (Int.toNat (chr t42.2.1 1)) (i64w ((at0 (({ p0 with b := (⟨(⟨t42.1.Link.Next, t42.1.Link.Queue⟩ : LinkLink), (⟨t42.1.Window.Low, t42.1.Window.Seen⟩ : WindowWindow)⟩ : PortPort) } : Switchboardlaw23Net).got) (chr t42.2.1 1)) + 1))) } : Switchboardlaw23Net) with back := ((([] : List Str) ++ ({ ({ p0 with b := (⟨(⟨t42.1.Link.Next, t42.1.Link.Queue⟩ : LinkLink), (⟨t42.1.Window.Low, t42.1.Window.Seen⟩ : WindowWindow)⟩ : PortPort) } : Switchboardlaw23Net) with got := (List.set (({ p0 with b := (⟨(⟨t42.1.Link.Next, t42.1.Link.Queue⟩ : LinkLink), (⟨t42.1.Window.Low, t42.1.Window.Seen⟩ : WindowWindow)⟩ : PortPort) } : Switchboardlaw23Net).got) (Int.toNat (chr t42.2.1 1)) (i64w ((at0 (({ p0 with b := (⟨(⟨t42.1.Link.Next, t42.1.Link.Queue⟩ : LinkLink), (⟨t42.1.Window.Low, t42.1.Window.Seen⟩ : WindowWindow)⟩ : PortPort) } : Switchboardlaw23Net).got) (chr t42.2.1 1)) + 1))) } : Switchboardlaw23Net).back) ++ ([t42.2.2.2.1] : List Str)) } : Switchboardlaw23Net).there).length c114) hO rfl rfl (hc112 0 _ rfl) one31) ?_
            refine WL.val (x_move (.int .i64 (Int.tmod p1 (p0.there.length : Int))) rfl) ?_
            obtain ⟨t116, ht117, hm0⟩ := bindSome hm0
            refine o_call hO go11 (switchboardref08_Without_ok hO.sub h115 ht117) rfl ?_
            rintro _ H118 w119 le120 ⟨A121, c122, rfl, h123⟩ hO
            refine WL.val (x_fa rfl fo34_2) ?_
            refine o_stP 0 (.slice A121 t116.length c122) hO rfl (Enc.mono _ le120 hr108) lSwitchboardlaw23Net_there rfl rfl rfl ⟨A121, c122, rfl, h123⟩ siz31 ?_
            intro cs124 w125 (hr126 : Enc.rep eSwitchboardlaw23Net H118 cs124 ({ ({ ({ ({ p0 with b := (⟨(⟨t42.1.Link.Next, t42.1.Link.Queue⟩ : LinkLink), (⟨t42.1.Window.Low, t42.1.Window.Seen⟩ : WindowWindow)⟩ : PortPort) } : Switchboardlaw23Net) with got := (List.set (({ p0 with b := (⟨(⟨t42.1.Link.Next, t42.1.Link.Queue⟩ : LinkLink), (⟨t42.1.Window.Low, t42.1.Window.Seen⟩ : WindowWindow)⟩ : PortPort) } : Switchboardlaw23Net).got) (Int.toNat (chr t42.2.1 1)) (i64w ((at0 (({ p0 with b := (⟨(⟨t42.1.Link.Next, t42.1.Link.Queue⟩ : LinkLink), (⟨t42.1.Window.Low, t42.1.Window.Seen⟩ : WindowWindow)⟩ : PortPort) } : Switchboardlaw23Net).got) (chr t42.2.1 1)) + 1))) } : Switchboardlaw23Net) with back := ((([] : List Str) ++ ({ ({ p0 with b := (⟨(⟨t42.1.Link.Next, t42.1.Link.Queue⟩ : LinkLink), (⟨t42.1.Window.Low, t42.1.Window.Seen⟩ : WindowWindow)⟩ : PortPort) } : Switchboardlaw23Net) with got := (List.set (({ p0 with b := (⟨(⟨t42.1.Link.Next, t42.1.Link.Queue⟩ : LinkLink), (⟨t42.1.Window.Low, t42.1.Window.Seen⟩ : WindowWindow)⟩ : PortPort) } : Switchboardlaw23Net).got) (Int.toNat (chr t42.2.1 1)) (i64w ((at0 (({ p0 with b := (⟨(⟨t42.1.Link.Next, t42.1.Link.Queue⟩ : LinkLink), (⟨t42.1.Window.Low, t42.1.Window.Seen⟩ : WindowWindow)⟩ : PortPort) } : Switchboardlaw23Net).got) (chr t42.2.1 1)) + 1))) } : Switchboardlaw23Net).back) ++ ([t42.2.2.2.1] : List Str)) } : Switchboardlaw23Net) with there := t116 } : Switchboardlaw23Net)) hO
            refine WL.nil ?_
            refine W.seq ?_
            refine W.region ?_
            refine WL.val (x_lds 0 cs124 hO rfl rfl agg34 (whole_take (rep_len hr126 rfl)) (rep_len hr126 rfl)) ?_
            refine o_stP 1 (.agg cs124.toArray) hO rfl (zr34 _) (Lens.refl _) rfl rfl rfl hr126 siz34 ?_
            intro cs127 w128 (hr129 : Enc.rep eSwitchboardlaw23Net H118 cs127 ({ ({ ({ ({ p0 with b := (⟨(⟨t42.1.Link.Next, t42.1.Link.Queue⟩ : LinkLink), (⟨t42.1.Window.Low, t42.1.Window.Seen⟩ : WindowWindow)⟩ : PortPort) } : Switchboardlaw23Net) with got := (List.set (({ p0 with b := (⟨(⟨t42.1.Link.Next, t42.1.Link.Queue⟩ : LinkLink), (⟨t42.1.Window.Low, t42.1.Window.Seen⟩ : WindowWindow)⟩ : PortPort) } : Switchboardlaw23Net).got) (Int.toNat (chr t42.2.1 1)) (i64w ((at0 (({ p0 with b := (⟨(⟨t42.1.Link.Next, t42.1.Link.Queue⟩ : LinkLink), (⟨t42.1.Window.Low, t42.1.Window.Seen⟩ : WindowWindow)⟩ : PortPort) } : Switchboardlaw23Net).got) (chr t42.2.1 1)) + 1))) } : Switchboardlaw23Net) with back := ((([] : List Str) ++ ({ ({ p0 with b := (⟨(⟨t42.1.Link.Next, t42.1.Link.Queue⟩ : LinkLink), (⟨t42.1.Window.Low, t42.1.Window.Seen⟩ : WindowWindow)⟩ : PortPort) } : Switchboardlaw23Net) with got := (List.set (({ p0 with b := (⟨(⟨t42.1.Link.Next, t42.1.Link.Queue⟩ : LinkLink), (⟨t42.1.Window.Low, t42.1.Window.Seen⟩ : WindowWindow)⟩ : PortPort) } : Switchboardlaw23Net).got) (Int.toNat (chr t42.2.1 1)) (i64w ((at0 (({ p0 with b := (⟨(⟨t42.1.Link.Next, t42.1.Link.Queue⟩ : LinkLink), (⟨t42.1.Window.Low, t42.1.Window.Seen⟩ : WindowWindow)⟩ : PortPort) } : Switchboardlaw23Net).got) (chr t42.2.1 1)) + 1))) } : Switchboardlaw23Net).back) ++ ([t42.2.2.2.1] : List Str)) } : Switchboardlaw23Net) with there := t116 } : Switchboardlaw23Net)) hO
            refine WL.nil ?_
            refine W.ret ?_
            obtain rfl := Option.some.inj hm0
            exact ⟨[(.agg cs127.toArray)], ⟨⟨_, rfl, hO.ldBlk 1 rfl agg34 (whole_take (rep_len hr129 rfl)) (rep_len hr129 rfl)⟩, trivial⟩, H118, _, ⟨cs127, rfl, hr129⟩, hO⟩
          · intro hb109 hm0
            refine W.skip ?_
            refine W.seq ?_
            refine W.region ?_
            refine WL.val (x_lds 0 cs106 hO rfl rfl agg34 (whole_take (rep_len hr108 rfl)) (rep_len hr108 rfl)) ?_
            refine o_stP 1 (.agg cs106.toArray) hO rfl (zr34 _) (Lens.refl _) rfl rfl rfl hr108 siz34 ?_
            intro cs130 w131 (hr132 : Enc.rep eSwitchboardlaw23Net H103 cs130 ({ ({ ({ p0 with b := (⟨(⟨t42.1.Link.Next, t42.1.Link.Queue⟩ : LinkLink), (⟨t42.1.Window.Low, t42.1.Window.Seen⟩ : WindowWindow)⟩ : PortPort) } : Switchboardlaw23Net) with got := (List.set (({ p0 with b := (⟨(⟨t42.1.Link.Next, t42.1.Link.Queue⟩ : LinkLink), (⟨t42.1.Window.Low, t42.1.Window.Seen⟩ : WindowWindow)⟩ : PortPort) } : Switchboardlaw23Net).got) (Int.toNat (chr t42.2.1 1)) (i64w ((at0 (({ p0 with b := (⟨(⟨t42.1.Link.Next, t42.1.Link.Queue⟩ : LinkLink), (⟨t42.1.Window.Low, t42.1.Window.Seen⟩ : WindowWindow)⟩ : PortPort) } : Switchboardlaw23Net).got) (chr t42.2.1 1)) + 1))) } : Switchboardlaw23Net) with back := ((([] : List Str) ++ ({ ({ p0 with b := (⟨(⟨t42.1.Link.Next, t42.1.Link.Queue⟩ : LinkLink), (⟨t42.1.Window.Low, t42.1.Window.Seen⟩ : WindowWindow)⟩ : PortPort) } : Switchboardlaw23Net) with got := (List.set (({ p0 with b := (⟨(⟨t42.1.Link.Next, t42.1.Link.Queue⟩ : LinkLink), (⟨t42.1.Window.Low, t42.1.Window.Seen⟩ : WindowWindow)⟩ : PortPort) } : Switchboardlaw23Net).got) (Int.toNat (chr t42.2.1 1)) (i64w ((at0 (({ p0 with b := (⟨(⟨t42.1.Link.Next, t42.1.Link.Queue⟩ : LinkLink), (⟨t42.1.Window.Low, t42.1.Window.Seen⟩ : WindowWindow)⟩ : PortPort) } : Switchboardlaw23Net).got) (chr t42.2.1 1)) + 1))) } : Switchboardlaw23Net).back) ++ ([t42.2.2.2.1] : List Str)) } : Switchboardlaw23Net)) hO
            refine WL.nil ?_
            refine W.ret ?_
            obtain rfl := Option.some.inj hm0
            exact ⟨[(.agg cs130.toArray)], ⟨⟨_, rfl, hO.ldBlk 1 rfl agg34 (whole_take (rep_len hr132 rfl)) (rep_len hr132 rfl)⟩, trivial⟩, H103, _, ⟨cs130, rfl, hr132⟩, hO⟩
        · intro hb75 hm0
          refine W.skip ?_
          refine W.seq ?_
          refine W.seq ?_
          refine W.region ?_
          refine WL.val (x_move (.bool p2) rfl) ?_
          refine WL.val (x_not rfl) ?_
          refine WL.nil ?_
          refine W.test rfl hm0 ?_ ?_
          · intro hb133 hm0
            refine W.region ?_
            refine WL.val (x_fa rfl fo34_2) ?_
            obtain ⟨cs134, hr135, hc136⟩ := lSwitchboardlaw23Net_there.part _ _ _ hr68
            obtain ⟨A137, c138, rfl, h139⟩ := hr135
            refine WL.val (x_ld 0 (.slice A137 (({ ({ p0 with b := (⟨(⟨t42.1.Link.Next, t42.1.Link.Queue⟩ : LinkLink), (⟨t42.1.Window.Low, t42.1.Window.Seen⟩ : WindowWindow)⟩ : PortPort) } : Switchboardlaw23Net) with got := (List.set (({ p0 with b := (⟨(⟨t42.1.Link.Next, t42.1.Link.Queue⟩ : LinkLink), (⟨t42.1.Window.Low, t42.1.Window.Seen⟩ : WindowWindow)⟩ : PortPort) } : Switchboardlaw23Net).got) (Int.toNat (chr t42.2.1 1)) (i64w ((at0 (({ p0 with b := (⟨(⟨t42.1.Link.Next, t42.1.Link.Queue⟩ : LinkLink), (⟨t42.1.Window.Low, t42.1.Window.Seen⟩ : WindowWindow)⟩ : PortPort) } : Switchboardlaw23Net).got) (chr t42.2.1 1)) + 1))) } : Switchboardlaw23Net).there).length c138) hO rfl rfl (hc136 0 _ rfl) one31) ?_
            refine WL.val (x_move (.int .i64 (Int.tmod p1 (p0.there.length : Int))) rfl) ?_
            obtain ⟨t140, ht141, hm0⟩ := bindSome hm0
            refine o_call hO go11 (switchboardref08_Without_ok hO.sub h139 ht141) rfl ?_
            rintro _ H142 w143 le144 ⟨A145, c146, rfl, h147⟩ hO
            refine WL.val (x_fa rfl fo34_2) ?_
            refine o_stP 0 (.slice A145 t140.length c146) hO rfl (Enc.mono _ le144 hr68) lSwitchboardlaw23Net_there rfl rfl rfl ⟨A145, c146, rfl, h147⟩ siz31 ?_
            intro cs148 w149 (hr150 : Enc.rep eSwitchboardlaw23Net H142 cs148 ({ ({ ({ p0 with b := (⟨(⟨t42.1.Link.Next, t42.1.Link.Queue⟩ : LinkLink), (⟨t42.1.Window.Low, t42.1.Window.Seen⟩ : WindowWindow)⟩ : PortPort) } : Switchboardlaw23Net) with got := (List.set (({ p0 with b := (⟨(⟨t42.1.Link.Next, t42.1.Link.Queue⟩ : LinkLink), (⟨t42.1.Window.Low, t42.1.Window.Seen⟩ : WindowWindow)⟩ : PortPort) } : Switchboardlaw23Net).got) (Int.toNat (chr t42.2.1 1)) (i64w ((at0 (({ p0 with b := (⟨(⟨t42.1.Link.Next, t42.1.Link.Queue⟩ : LinkLink), (⟨t42.1.Window.Low, t42.1.Window.Seen⟩ : WindowWindow)⟩ : PortPort) } : Switchboardlaw23Net).got) (chr t42.2.1 1)) + 1))) } : Switchboardlaw23Net) with there := t140 } : Switchboardlaw23Net)) hO
            refine WL.nil ?_
            refine W.seq ?_
            refine W.region ?_
            refine WL.val (x_lds 0 cs148 hO rfl rfl agg34 (whole_take (rep_len hr150 rfl)) (rep_len hr150 rfl)) ?_
            refine o_stP 1 (.agg cs148.toArray) hO rfl (zr34 _) (Lens.refl _) rfl rfl rfl hr150 siz34 ?_
            intro cs151 w152 (hr153 : Enc.rep eSwitchboardlaw23Net H142 cs151 ({ ({ ({ p0 with b := (⟨(⟨t42.1.Link.Next, t42.1.Link.Queue⟩ : LinkLink), (⟨t42.1.Window.Low, t42.1.Window.Seen⟩ : WindowWindow)⟩ : PortPort) } : Switchboardlaw23Net) with got := (List.set (({ p0 with b := (⟨(⟨t42.1.Link.Next, t42.1.Link.Queue⟩ : LinkLink), (⟨t42.1.Window.Low, t42.1.Window.Seen⟩ : WindowWindow)⟩ : PortPort) } : Switchboardlaw23Net).got) (Int.toNat (chr t42.2.1 1)) (i64w ((at0 (({ p0 with b := (⟨(⟨t42.1.Link.Next, t42.1.Link.Queue⟩ : LinkLink), (⟨t42.1.Window.Low, t42.1.Window.Seen⟩ : WindowWindow)⟩ : PortPort) } : Switchboardlaw23Net).got) (chr t42.2.1 1)) + 1))) } : Switchboardlaw23Net) with there := t140 } : Switchboardlaw23Net)) hO
            refine WL.nil ?_
            refine W.ret ?_
            obtain rfl := Option.some.inj hm0
            exact ⟨[(.agg cs151.toArray)], ⟨⟨_, rfl, hO.ldBlk 1 rfl agg34 (whole_take (rep_len hr153 rfl)) (rep_len hr153 rfl)⟩, trivial⟩, H142, _, ⟨cs151, rfl, hr153⟩, hO⟩
          · intro hb133 hm0
            refine W.skip ?_
            refine W.seq ?_
            refine W.region ?_
            refine WL.val (x_lds 0 cs66 hO rfl rfl agg34 (whole_take (rep_len hr68 rfl)) (rep_len hr68 rfl)) ?_
            refine o_stP 1 (.agg cs66.toArray) hO rfl (zr34 _) (Lens.refl _) rfl rfl rfl hr68 siz34 ?_
            intro cs154 w155 (hr156 : Enc.rep eSwitchboardlaw23Net H44 cs154 ({ ({ p0 with b := (⟨(⟨t42.1.Link.Next, t42.1.Link.Queue⟩ : LinkLink), (⟨t42.1.Window.Low, t42.1.Window.Seen⟩ : WindowWindow)⟩ : PortPort) } : Switchboardlaw23Net) with got := (List.set (({ p0 with b := (⟨(⟨t42.1.Link.Next, t42.1.Link.Queue⟩ : LinkLink), (⟨t42.1.Window.Low, t42.1.Window.Seen⟩ : WindowWindow)⟩ : PortPort) } : Switchboardlaw23Net).got) (Int.toNat (chr t42.2.1 1)) (i64w ((at0 (({ p0 with b := (⟨(⟨t42.1.Link.Next, t42.1.Link.Queue⟩ : LinkLink), (⟨t42.1.Window.Low, t42.1.Window.Seen⟩ : WindowWindow)⟩ : PortPort) } : Switchboardlaw23Net).got) (chr t42.2.1 1)) + 1))) } : Switchboardlaw23Net)) hO
            refine WL.nil ?_
            refine W.ret ?_
            obtain rfl := Option.some.inj hm0
            exact ⟨[(.agg cs154.toArray)], ⟨⟨_, rfl, hO.ldBlk 1 rfl agg34 (whole_take (rep_len hr156 rfl)) (rep_len hr156 rfl)⟩, trivial⟩, H44, _, ⟨cs154, rfl, hr156⟩, hO⟩
      · intro hb59 hm0
        refine W.skip ?_
        refine W.seq ?_
        refine W.seq ?_
        refine W.region ?_
        refine WL.val (x_fa rfl fo34_3) ?_
        obtain ⟨cs157, hr158, hc159⟩ := lSwitchboardlaw23Net_back.part _ _ _ hr58
        obtain ⟨A160, c161, rfl, h162⟩ := hr158
        refine WL.val (x_ld 0 (.slice A160 (({ p0 with b := (⟨(⟨t42.1.Link.Next, t42.1.Link.Queue⟩ : LinkLink), (⟨t42.1.Window.Low, t42.1.Window.Seen⟩ : WindowWindow)⟩ : PortPort) } : Switchboardlaw23Net).back).length c161) hO rfl rfl (hc159 0 _ rfl) one31) ?_
        refine WL.val (x_len rfl Try.underlying31) ?_
        refine WL.val (x_lss rfl rfl) ?_
        refine WL.nil ?_
        refine W.test rfl hm0 ?_ ?_
        · intro hb163 hm0
          refine W.region ?_
          refine o_litT (en := eStr) 5 [] ([] : List Str) hO sli31 trivial rfl rfl rfl ?_
          intro g164 cs165 w166 hr167 hO
          refine WL.val (x_fa rfl fo34_3) ?_
          obtain ⟨cs168, hr169, hc170⟩ := lSwitchboardlaw23Net_back.part _ _ _ hr58
          obtain ⟨A171, c172, rfl, h173⟩ := hr169
          refine WL.val (x_ld 0 (.slice A171 (({ p0 with b := (⟨(⟨t42.1.Link.Next, t42.1.Link.Queue⟩ : LinkLink), (⟨t42.1.Window.Low, t42.1.Window.Seen⟩ : WindowWindow)⟩ : PortPort) } : Switchboardlaw23Net).back).length c172) hO rfl rfl (hc170 0 _ rfl) one31) ?_
          obtain ⟨cs174, hs175, hr176⟩ := RS.src h173 hO
          refine o_appT (en := eStr) (xs := ([] : List Str)) (ys := ({ p0 with b := (⟨(⟨t42.1.Link.Next, t42.1.Link.Queue⟩ : LinkLink), (⟨t42.1.Window.Low, t42.1.Window.Seen⟩ : WindowWindow)⟩ : PortPort) } : Switchboardlaw23Net).back) 5 hO rfl hr167 rfl rfl hs175 hr176 sli31 rfl rfl Try.underlying31 hm0 ?_
          intro A177 c178 cs179 w180 hr181 hO hm0
          refine WL.val (x_move (vs t42.2.2.2.1) rfl) ?_
          refine o_litT (en := eStr) 6 [(vs t42.2.2.2.1)] ([t42.2.2.2.1] : List Str) hO sli31 ⟨rfl, trivial⟩ rfl rfl rfl ?_
          intro g182 cs183 w184 hr185 hO
          refine o_appT (en := eStr) (xs := (([] : List Str) ++ ({ p0 with b := (⟨(⟨t42.1.Link.Next, t42.1.Link.Queue⟩ : LinkLink), (⟨t42.1.Window.Low, t42.1.Window.Seen⟩ : WindowWindow)⟩ : PortPort) } : Switchboardlaw23Net).back)) (ys := ([t42.2.2.2.1] : List Str)) 5 hO rfl hr181 rfl rfl (Src.row (k := 6) hO rfl) hr185 sli31 rfl rfl Try.underlying31 hm0 ?_
          intro A186 c187 cs188 w189 hr190 hO hm0
          refine WL.val (x_fa rfl fo34_3) ?_
          obtain ⟨H191, le192, h193, hO⟩ := hO.freezeRow (en := eStr) 5 rfl rfl rfl hr190
          refine o_stP 0 (.slice A186 ((([] : List Str) ++ ({ p0 with b := (⟨(⟨t42.1.Link.Next, t42.1.Link.Queue⟩ : LinkLink), (⟨t42.1.Window.Low, t42.1.Window.Seen⟩ : WindowWindow)⟩ : PortPort) } : Switchboardlaw23Net).back) ++ ([t42.2.2.2.1] : List Str)).length c187) hO rfl (Enc.mono _ le192 hr58) lSwitchboardlaw23Net_back rfl rfl rfl ⟨A186, c187, rfl, h193⟩ siz31 ?_
          intro cs194 w195 (hr196 : Enc.rep eSwitchboardlaw23Net H191 cs194 ({ ({ p0 with b := (⟨(⟨t42.1.Link.Next, t42.1.Link.Queue⟩ : LinkLink), (⟨t42.1.Window.Low, t42.1.Window.Seen⟩ : WindowWindow)⟩ : PortPort) } : Switchboardlaw23Net) with back := ((([] : List Str) ++ ({ p0 with b := (⟨(⟨t42.1.Link.Next, t42.1.Link.Queue⟩ : LinkLink), (⟨t42.1.Window.Low, t42.1.Window.Seen⟩ : WindowWindow)⟩ : PortPort) } : Switchboardlaw23Net).back) ++ ([t42.2.2.2.1] : List Str)) } : Switchboardlaw23Net)) hO
          refine WL.nil ?_
          refine W.seq ?_
          refine W.seq ?_
          refine W.region ?_
          refine WL.val (x_move (.bool p2) rfl) ?_
          refine WL.val (x_not rfl) ?_
          refine WL.nil ?_
          refine W.test rfl hm0 ?_ ?_
          · intro hb197 hm0
            refine W.region ?_
            refine WL.val (x_fa rfl fo34_2) ?_
            obtain ⟨cs198, hr199, hc200⟩ := lSwitchboardlaw23Net_there.part _ _ _ hr196
            obtain ⟨A201, c202, rfl, h203⟩ := hr199
            refine WL.val (x_ld 0 (.slice A201 (({ ({ p0 with b := (⟨(⟨t42.1.Link.Next, t42.1.Link.Queue⟩ : LinkLink), (⟨t42.1.Window.Low, t42.1.Window.Seen⟩ : WindowWindow)⟩ : PortPort) } : Switchboardlaw23Net) with back := ((([] : List Str) ++ ({ p0 with b := (⟨(⟨t42.1.Link.Next, t42.1.Link.Queue⟩ : LinkLink), (⟨t42.1.Window.Low, t42.1.Window.Seen⟩ : WindowWindow)⟩ : PortPort) } : Switchboardlaw23Net).back) ++ ([t42.2.2.2.1] : List Str)) } : Switchboardlaw23Net).there).length c202) hO rfl rfl (hc200 0 _ rfl) one31) ?_
            refine WL.val (x_move (.int .i64 (Int.tmod p1 (p0.there.length : Int))) rfl) ?_
            obtain ⟨t204, ht205, hm0⟩ := bindSome hm0
            refine o_call hO go11 (switchboardref08_Without_ok hO.sub h203 ht205) rfl ?_
            rintro _ H206 w207 le208 ⟨A209, c210, rfl, h211⟩ hO
            refine WL.val (x_fa rfl fo34_2) ?_
            refine o_stP 0 (.slice A209 t204.length c210) hO rfl (Enc.mono _ le208 hr196) lSwitchboardlaw23Net_there rfl rfl rfl ⟨A209, c210, rfl, h211⟩ siz31 ?_
            intro cs212 w213 (hr214 : Enc.rep eSwitchboardlaw23Net H206 cs212 ({ ({ ({ p0 with b := (⟨(⟨t42.1.Link.Next, t42.1.Link.Queue⟩ : LinkLink), (⟨t42.1.Window.Low, t42.1.Window.Seen⟩ : WindowWindow)⟩ : PortPort) } : Switchboardlaw23Net) with back := ((([] : List Str) ++ ({ p0 with b := (⟨(⟨t42.1.Link.Next, t42.1.Link.Queue⟩ : LinkLink), (⟨t42.1.Window.Low, t42.1.Window.Seen⟩ : WindowWindow)⟩ : PortPort) } : Switchboardlaw23Net).back) ++ ([t42.2.2.2.1] : List Str)) } : Switchboardlaw23Net) with there := t204 } : Switchboardlaw23Net)) hO
            refine WL.nil ?_
            refine W.seq ?_
            refine W.region ?_
            refine WL.val (x_lds 0 cs212 hO rfl rfl agg34 (whole_take (rep_len hr214 rfl)) (rep_len hr214 rfl)) ?_
            refine o_stP 1 (.agg cs212.toArray) hO rfl (zr34 _) (Lens.refl _) rfl rfl rfl hr214 siz34 ?_
            intro cs215 w216 (hr217 : Enc.rep eSwitchboardlaw23Net H206 cs215 ({ ({ ({ p0 with b := (⟨(⟨t42.1.Link.Next, t42.1.Link.Queue⟩ : LinkLink), (⟨t42.1.Window.Low, t42.1.Window.Seen⟩ : WindowWindow)⟩ : PortPort) } : Switchboardlaw23Net) with back := ((([] : List Str) ++ ({ p0 with b := (⟨(⟨t42.1.Link.Next, t42.1.Link.Queue⟩ : LinkLink), (⟨t42.1.Window.Low, t42.1.Window.Seen⟩ : WindowWindow)⟩ : PortPort) } : Switchboardlaw23Net).back) ++ ([t42.2.2.2.1] : List Str)) } : Switchboardlaw23Net) with there := t204 } : Switchboardlaw23Net)) hO
            refine WL.nil ?_
            refine W.ret ?_
            obtain rfl := Option.some.inj hm0
            exact ⟨[(.agg cs215.toArray)], ⟨⟨_, rfl, hO.ldBlk 1 rfl agg34 (whole_take (rep_len hr217 rfl)) (rep_len hr217 rfl)⟩, trivial⟩, H206, _, ⟨cs215, rfl, hr217⟩, hO⟩
          · intro hb197 hm0
            refine W.skip ?_
            refine W.seq ?_
            refine W.region ?_
            refine WL.val (x_lds 0 cs194 hO rfl rfl agg34 (whole_take (rep_len hr196 rfl)) (rep_len hr196 rfl)) ?_
            refine o_stP 1 (.agg cs194.toArray) hO rfl (zr34 _) (Lens.refl _) rfl rfl rfl hr196 siz34 ?_
            intro cs218 w219 (hr220 : Enc.rep eSwitchboardlaw23Net H191 cs218 ({ ({ p0 with b := (⟨(⟨t42.1.Link.Next, t42.1.Link.Queue⟩ : LinkLink), (⟨t42.1.Window.Low, t42.1.Window.Seen⟩ : WindowWindow)⟩ : PortPort) } : Switchboardlaw23Net) with back := ((([] : List Str) ++ ({ p0 with b := (⟨(⟨t42.1.Link.Next, t42.1.Link.Queue⟩ : LinkLink), (⟨t42.1.Window.Low, t42.1.Window.Seen⟩ : WindowWindow)⟩ : PortPort) } : Switchboardlaw23Net).back) ++ ([t42.2.2.2.1] : List Str)) } : Switchboardlaw23Net)) hO
            refine WL.nil ?_
            refine W.ret ?_
            obtain rfl := Option.some.inj hm0
            exact ⟨[(.agg cs218.toArray)], ⟨⟨_, rfl, hO.ldBlk 1 rfl agg34 (whole_take (rep_len hr220 rfl)) (rep_len hr220 rfl)⟩, trivial⟩, H191, _, ⟨cs218, rfl, hr220⟩, hO⟩
        · intro hb163 hm0
          refine W.skip ?_
          refine W.seq ?_
          refine W.seq ?_
          refine W.region ?_
          refine WL.val (x_move (.bool p2) rfl) ?_
          refine WL.val (x_not rfl) ?_
          refine WL.nil ?_
          refine W.test rfl hm0 ?_ ?_
          · intro hb221 hm0
            refine W.region ?_
            refine WL.val (x_fa rfl fo34_2) ?_
            obtain ⟨cs222, hr223, hc224⟩ := lSwitchboardlaw23Net_there.part _ _ _ hr58
            obtain ⟨A225, c226, rfl, h227⟩ := hr223
            refine WL.val (x_ld 0 (.slice A225 (({ p0 with b := (⟨(⟨t42.1.Link.Next, t42.1.Link.Queue⟩ : LinkLink), (⟨t42.1.Window.Low, t42.1.Window.Seen⟩ : WindowWindow)⟩ : PortPort) } : Switchboardlaw23Net).there).length c226) hO rfl rfl (hc224 0 _ rfl) one31) ?_
            refine WL.val (x_move (.int .i64 (Int.tmod p1 (p0.there.length : Int))) rfl) ?_
            obtain ⟨t228, ht229, hm0⟩ := bindSome hm0
            refine o_call hO go11 (switchboardref08_Without_ok hO.sub h227 ht229) rfl ?_
            rintro _ H230 w231 le232 ⟨A233, c234, rfl, h235⟩ hO
            refine WL.val (x_fa rfl fo34_2) ?_
            refine o_stP 0 (.slice A233 t228.length c234) hO rfl (Enc.mono _ le232 hr58) lSwitchboardlaw23Net_there rfl rfl rfl ⟨A233, c234, rfl, h235⟩ siz31 ?_
            intro cs236 w237 (hr238 : Enc.rep eSwitchboardlaw23Net H230 cs236 ({ ({ p0 with b := (⟨(⟨t42.1.Link.Next, t42.1.Link.Queue⟩ : LinkLink), (⟨t42.1.Window.Low, t42.1.Window.Seen⟩ : WindowWindow)⟩ : PortPort) } : Switchboardlaw23Net) with there := t228 } : Switchboardlaw23Net)) hO
            refine WL.nil ?_
            refine W.seq ?_
            refine W.region ?_
            refine WL.val (x_lds 0 cs236 hO rfl rfl agg34 (whole_take (rep_len hr238 rfl)) (rep_len hr238 rfl)) ?_
            refine o_stP 1 (.agg cs236.toArray) hO rfl (zr34 _) (Lens.refl _) rfl rfl rfl hr238 siz34 ?_
            intro cs239 w240 (hr241 : Enc.rep eSwitchboardlaw23Net H230 cs239 ({ ({ p0 with b := (⟨(⟨t42.1.Link.Next, t42.1.Link.Queue⟩ : LinkLink), (⟨t42.1.Window.Low, t42.1.Window.Seen⟩ : WindowWindow)⟩ : PortPort) } : Switchboardlaw23Net) with there := t228 } : Switchboardlaw23Net)) hO
            refine WL.nil ?_
            refine W.ret ?_
            obtain rfl := Option.some.inj hm0
            exact ⟨[(.agg cs239.toArray)], ⟨⟨_, rfl, hO.ldBlk 1 rfl agg34 (whole_take (rep_len hr241 rfl)) (rep_len hr241 rfl)⟩, trivial⟩, H230, _, ⟨cs239, rfl, hr241⟩, hO⟩
          · intro hb221 hm0
            refine W.skip ?_
            refine W.seq ?_
            refine W.region ?_
            refine WL.val (x_lds 0 cs56 hO rfl rfl agg34 (whole_take (rep_len hr58 rfl)) (rep_len hr58 rfl)) ?_
            refine o_stP 1 (.agg cs56.toArray) hO rfl (zr34 _) (Lens.refl _) rfl rfl rfl hr58 siz34 ?_
            intro cs242 w243 (hr244 : Enc.rep eSwitchboardlaw23Net H44 cs242 ({ p0 with b := (⟨(⟨t42.1.Link.Next, t42.1.Link.Queue⟩ : LinkLink), (⟨t42.1.Window.Low, t42.1.Window.Seen⟩ : WindowWindow)⟩ : PortPort) } : Switchboardlaw23Net)) hO
            refine WL.nil ?_
            refine W.ret ?_
            obtain rfl := Option.some.inj hm0
            exact ⟨[(.agg cs242.toArray)], ⟨⟨_, rfl, hO.ldBlk 1 rfl agg34 (whole_take (rep_len hr244 rfl)) (rep_len hr244 rfl)⟩, trivial⟩, H44, _, ⟨cs242, rfl, hr244⟩, hO⟩
    · refine ⟨_, rfl, ?_⟩
      refine o_alloc 7 _ [(.int .i64 0), (.slice none 0 0), (.int .i64 0), (.slice none 0 0)] zer30 hO rfl ?_
      intro g44 w45 hO
      have hS : SD w0 H0 [] H0 [(0, .blk g1 cs1_ 34), (1, .blk g3 zc34 34)] _ := ⟨_, _, (Le.refl _), hO, ⟨rfl, rfl, trivial⟩⟩
      refine WL.nil ⟨fun _ => hS, ?_⟩
      refine WA.only (i := 7) (by kernel_rfl) rfl ?_
      refine o_call hO go12 (port_Receive_ok hO.sub h28 h31 ht43) rfl ?_
      rintro _ H46 w47 le48 ⟨A49, c50, A52, c53, rfl, h51, h54⟩ hO
      have hS : SD w0 H0 [] H0 [(0, .blk g1 cs1_ 34), (1, .blk g3 zc34 34)] _ := ⟨_, _, le48, hO, ⟨rfl, rfl, trivial⟩⟩
      refine WL.nil ⟨fun _ => hS, ?_⟩
      refine WA.take (i := 8) rfl (by kernel_rfl) (fun w hS => x_move (.tuple ([(.agg ([(.int .i64 t42.1.Link.Next), (.slice A49 t42.1.Link.Queue.length c50), (.int .i64 t42.1.Window.Low), (.slice A52 t42.1.Window.Seen.length c53)] : List Value).toArray), (vs t42.2.1), (.bool t42.2.2.1), (vs t42.2.2.2.1), (.int .i64 t42.2.2.2.2)] : List Value).toArray) rfl) hS ?_
      refine WA.take (i := 9) rfl (by kernel_rfl) (fun w hS => x_extract (.agg ([(.int .i64 t42.1.Link.Next), (.slice A49 t42.1.Link.Queue.length c50), (.int .i64 t42.1.Window.Low), (.slice A52 t42.1.Window.Seen.length c53)] : List Value).toArray) rfl rfl) hS ?_
      refine WA.take (i := 10) rfl (by kernel_rfl) (fun w hS => x_extract (vs t42.2.1) rfl rfl) hS ?_
      refine WA.take (i := 11) rfl (by kernel_rfl) (fun w hS => x_extract (.bool t42.2.2.1) rfl rfl) hS ?_
      refine WA.take (i := 12) rfl (by kernel_rfl) (fun w hS => x_extract (vs t42.2.2.2.1) rfl rfl) hS ?_
      refine WA.take (i := 13) rfl (by kernel_rfl) (fun w hS => x_extract (.int .i64 t42.2.2.2.2) rfl rfl) hS ?_
      refine WA.only (i := 15) (by kernel_rfl) rfl ?_
      refine o_sts 7 [(.int .i64 t42.1.Link.Next), (.slice A49 t42.1.Link.Queue.length c50), (.int .i64 t42.1.Window.Low), (.slice A52 t42.1.Window.Seen.length c53)] hO rfl rfl rfl siz30 rfl (Nat.le_of_ble_eq_true rfl) (by simp [Value.oneCell', vs]) ?_
      intro w55 hO
      have hS : SD w0 H0 [] H0 [(0, .blk g1 cs1_ 34), (1, .blk g3 zc34 34)] _ := ⟨_, _, le48, hO, ⟨rfl, rfl, trivial⟩⟩
      refine WL.nil ⟨fun _ => hS, ?_⟩
      refine WA.take (i := 16) rfl (by kernel_rfl) (fun w hS => x_assign (vs t42.2.1) rfl) hS ?_
      refine WA.take (i := 17) rfl (by kernel_rfl) (fun w hS => x_assign (.bool t42.2.2.1) rfl) hS ?_
      refine WA.take (i := 18) rfl (by kernel_rfl) (fun w hS => x_assign (vs t42.2.2.2.1) rfl) hS ?_
      refine WA.take (i := 19) rfl (by kernel_rfl) (fun w hS => x_assign (.int .i64 t42.2.2.2.2) rfl) hS ?_
      refine WA.done (by kernel_rfl) ?_
      refine W.seq ?_
      refine W.region ?_
      refine WL.val (x_lds 7 [(.int .i64 t42.1.Link.Next), (.slice A49 t42.1.Link.Queue.length c50), (.int .i64 t42.1.Window.Low), (.slice A52 t42.1.Window.Seen.length c53)] hO rfl rfl agg30 rfl rfl) ?_
      refine WL.val (x_fa rfl fo34_1) ?_
      refine o_stP 0 (.agg ([(.int .i64 t42.1.Link.Next), (.slice A49 t42.1.Link.Queue.length c50), (.int .i64 t42.1.Window.Low), (.slice A52 t42.1.Window.Seen.length c53)] : List Value).toArray) hO rfl (Enc.mono _ le48 h1_) lSwitchboardlaw23Net_b rfl rfl rfl ⟨A49, c50, A52, c53, rfl, h51, h54⟩ siz30 ?_
      intro cs56 w57 (hr58 : Enc.rep eSwitchboardlaw23Net H46 cs56 ({ p0 with b := (⟨(⟨t42.1.Link.Next, t42.1.Link.Queue⟩ : LinkLink), (⟨t42.1.Window.Low, t42.1.Window.Seen⟩ : WindowWindow)⟩ : PortPort) } : Switchboardlaw23Net)) hO
      refine WL.nil ?_
      refine W.seq ?_
      refine W.seq ?_
      refine W.region ?_
      refine WL.val (x_move (.bool t42.2.2.1) rfl) ?_
      refine WL.val (x_move (.bool t42.2.2.1) rfl) ?_
      refine WL.gval rfl rfl (fun hb => x_move (vs t42.2.1) rfl) ?_
      refine WL.gval rfl rfl (fun hb => x_lens (gv hb) Try.underlying9) ?_
      refine WL.gval rfl rfl (fun hb => x_eql (gv hb) rfl) ?_
      refine WL.val (x_pick rfl (.bool (t42.2.2.1 && ((t42.2.1.length : Int) == 2))) pick_and) ?_
      refine WL.nil ?_
      refine W.test rfl hm0 ?_ ?_
      · intro hb59 hm0
        refine W.region ?_
        refine WL.val (x_move (vs t42.2.1) rfl) ?_
        obtain ⟨hz60, hm0⟩ := chk hm0
        refine WL.val (x_idx Try.underlying9 rfl rfl hz60) ?_
        refine WL.val (x_fa rfl fo34_4) ?_
        obtain ⟨hin61, hm0⟩ := chk hm0
        refine WL.val (x_iaArr rfl rfl are32 hin61) ?_
        obtain ⟨cs62, hr63, hc64⟩ := (Part.comp lSwitchboardlaw23Net_got.part ((lens_idx (n := 256) (eInt .i64) hin61).part)) _ _ _ hr58
        obtain rfl := hr63
        refine WL.val (x_ld 0 (.int .i64 (at0 (({ p0 with b := (⟨(⟨t42.1.Link.Next, t42.1.Link.Queue⟩ : LinkLink), (⟨t42.1.Window.Low, t42.1.Window.Seen⟩ : WindowWindow)⟩ : PortPort) } : Switchboardlaw23Net).got) (chr t42.2.1 1))) hO rfl rfl (hc64 0 _ rfl) one3) ?_
        refine WL.val (x_add rfl rfl) ?_
        refine WL.val (x_fa rfl fo34_4) ?_
        obtain ⟨hin65, hm0⟩ := chk hm0
        refine WL.val (x_iaArr rfl rfl are32 hin65) ?_
        refine o_stP 0 (.int .i64 (i64w ((at0 (({ p0 with b := (⟨(⟨t42.1.Link.Next, t42.1.Link.Queue⟩ : LinkLink), (⟨t42.1.Window.Low, t42.1.Window.Seen⟩ : WindowWindow)⟩ : PortPort) } : Switchboardlaw23Net).got) (chr t42.2.1 1)) + 1))) hO rfl hr58 (Lens.comp lSwitchboardlaw23Net_got (lens_idx (n := 256) (eInt .i64) hin65)) rfl rfl rfl rfl siz3 ?_
        intro cs66 w67 (hr68 : Enc.rep eSwitchboardlaw23Net H46 cs66 ({ ({ p0 with b := (⟨(⟨t42.1.Link.Next, t42.1.Link.Queue⟩ : LinkLink), (⟨t42.1.Window.Low, t42.1.Window.Seen⟩ : WindowWindow)⟩ : PortPort) } : Switchboardlaw23Net) with got := (List.set (({ p0 with b := (⟨(⟨t42.1.Link.Next, t42.1.Link.Queue⟩ : LinkLink), (⟨t42.1.Window.Low, t42.1.Window.Seen⟩ : WindowWindow)⟩ : PortPort) } : Switchboardlaw23Net).got) (Int.toNat (chr t42.2.1 1)) (i64w ((at0 (({ p0 with b := (⟨(⟨t42.1.Link.Next, t42.1.Link.Queue⟩ : LinkLink), (⟨t42.1.Window.Low, t42.1.Window.Seen⟩ : WindowWindow)⟩ : PortPort) } : Switchboardlaw23Net).got) (chr t42.2.1 1)) + 1))) } : Switchboardlaw23Net)) hO
        refine WL.nil ?_
        refine W.seq ?_
        refine W.seq ?_
        refine W.region ?_
        refine WL.val (x_fa rfl fo34_3) ?_
        obtain ⟨cs69, hr70, hc71⟩ := lSwitchboardlaw23Net_back.part _ _ _ hr68
        obtain ⟨A72, c73, rfl, h74⟩ := hr70
        refine WL.val (x_ld 0 (.slice A72 (({ ({ p0 with b := (⟨(⟨t42.1.Link.Next, t42.1.Link.Queue⟩ : LinkLink), (⟨t42.1.Window.Low, t42.1.Window.Seen⟩ : WindowWindow)⟩ : PortPort) } : Switchboardlaw23Net) with got := (List.set (({ p0 with b := (⟨(⟨t42.1.Link.Next, t42.1.Link.Queue⟩ : LinkLink), (⟨t42.1.Window.Low, t42.1.Window.Seen⟩ : WindowWindow)⟩ : PortPort) } : Switchboardlaw23Net).got) (Int.toNat (chr t42.2.1 1)) (i64w ((at0 (({ p0 with b := (⟨(⟨t42.1.Link.Next, t42.1.Link.Queue⟩ : LinkLink), (⟨t42.1.Window.Low, t42.1.Window.Seen⟩ : WindowWindow)⟩ : PortPort) } : Switchboardlaw23Net).got) (chr t42.2.1 1)) + 1))) } : Switchboardlaw23Net).back).length c73) hO rfl rfl (hc71 0 _ rfl) one31) ?_
        refine WL.val (x_len rfl Try.underlying31) ?_
        refine WL.val (x_lss rfl rfl) ?_
        refine WL.nil ?_
        refine W.test rfl hm0 ?_ ?_
        · intro hb75 hm0
          refine W.region ?_
          refine o_litT (en := eStr) 8 [] ([] : List Str) hO sli31 trivial rfl rfl rfl ?_
          intro g76 cs77 w78 hr79 hO
          refine WL.val (x_fa rfl fo34_3) ?_
          obtain ⟨cs80, hr81, hc82⟩ := lSwitchboardlaw23Net_back.part _ _ _ hr68
          obtain ⟨A83, c84, rfl, h85⟩ := hr81
          refine WL.val (x_ld 0 (.slice A83 (({ ({ p0 with b := (⟨(⟨t42.1.Link.Next, t42.1.Link.Queue⟩ : LinkLink), (⟨t42.1.Window.Low, t42.1.Window.Seen⟩ : WindowWindow)⟩ : PortPort) } : Switchboardlaw23Net) with got := (List.set (({ p0 with b := (⟨(⟨t42.1.Link.Next, t42.1.Link.Queue⟩ : LinkLink), (⟨t42.1.Window.Low, t42.1.Window.Seen⟩ : WindowWindow)⟩ : PortPort) } : Switchboardlaw23Net).got) (Int.toNat (chr t42.2.1 1)) (i64w ((at0 (({ p0 with b := (⟨(⟨t42.1.Link.Next, t42.1.Link.Queue⟩ : LinkLink), (⟨t42.1.Window.Low, t42.1.Window.Seen⟩ : WindowWindow)⟩ : PortPort) } : Switchboardlaw23Net).got) (chr t42.2.1 1)) + 1))) } : Switchboardlaw23Net).back).length c84) hO rfl rfl (hc82 0 _ rfl) one31) ?_
          obtain ⟨cs86, hs87, hr88⟩ := RS.src h85 hO
          refine o_appT (en := eStr) (xs := ([] : List Str)) (ys := ({ ({ p0 with b := (⟨(⟨t42.1.Link.Next, t42.1.Link.Queue⟩ : LinkLink), (⟨t42.1.Window.Low, t42.1.Window.Seen⟩ : WindowWindow)⟩ : PortPort) } : Switchboardlaw23Net) with got := (List.set (({ p0 with b := (⟨(⟨t42.1.Link.Next, t42.1.Link.Queue⟩ : LinkLink), (⟨t42.1.Window.Low, t42.1.Window.Seen⟩ : WindowWindow)⟩ : PortPort) } : Switchboardlaw23Net).got) (Int.toNat (chr t42.2.1 1)) (i64w ((at0 (({ p0 with b := (⟨(⟨t42.1.Link.Next, t42.1.Link.Queue⟩ : LinkLink), (⟨t42.1.Window.Low, t42.1.Window.Seen⟩ : WindowWindow)⟩ : PortPort) } : Switchboardlaw23Net).got) (chr t42.2.1 1)) + 1))) } : Switchboardlaw23Net).back) 8 hO rfl hr79 rfl rfl hs87 hr88 sli31 rfl rfl Try.underlying31 hm0 ?_
          intro A89 c90 cs91 w92 hr93 hO hm0
          refine WL.val (x_move (vs t42.2.2.2.1) rfl) ?_
          refine o_litT (en := eStr) 9 [(vs t42.2.2.2.1)] ([t42.2.2.2.1] : List Str) hO sli31 ⟨rfl, trivial⟩ rfl rfl rfl ?_
          intro g94 cs95 w96 hr97 hO
          refine o_appT (en := eStr) (xs := (([] : List Str) ++ ({ ({ p0 with b := (⟨(⟨t42.1.Link.Next, t42.1.Link.Queue⟩ : LinkLink), (⟨t42.1.Window.Low, t42.1.Window.Seen⟩ : WindowWindow)⟩ : PortPort) } : Switchboardlaw23Net) with got := (List.set (({ p0 with b := (⟨(⟨t42.1.Link.Next, t42.1.Link.Queue⟩ : LinkLink), (⟨t42.1.Window.Low, t42.1.Window.Seen⟩ : WindowWindow)⟩ : PortPort) } : Switchboardlaw23Net).got) (Int.toNat (chr t42.2.1 1)) (i64w ((at0 (({ p0 with b := (⟨(⟨t42.1.Link.Next, t42.1.Link.Queue⟩ : LinkLink), (⟨t42.1.Window.Low, t42.1.Window.Seen⟩ : WindowWindow)⟩ : PortPort) } : Switchboardlaw23Net).got) (chr t42.2.1 1)) + 1))) } : Switchboardlaw23Net).back)) (ys := ([t42.2.2.2.1] : List Str)) 8 hO rfl hr93 rfl rfl (Src.row (k := 9) hO rfl) hr97 sli31 rfl rfl Try.underlying31 hm0 ?_
          intro A98 c99 cs100 w101 hr102 hO hm0
          refine WL.val (x_fa rfl fo34_3) ?_
          obtain ⟨H103, le104, h105, hO⟩ := hO.freezeRow (en := eStr) 8 rfl rfl rfl hr102
          refine o_stP 0 (.slice A98 ((([] : List Str) ++ ({ ({ p0 with b := (⟨(⟨t42.1.Link.Next, t42.1.Link.Queue⟩ : LinkLink), (⟨t42.1.Window.Low, t42.1.Window.Seen⟩ : WindowWindow)⟩ : PortPort) } : Switchboardlaw23Net) with got := (List.set (({ p0 with b := (⟨(⟨t42.1.Link.Next, t42.1.Link.Queue⟩ : LinkLink), (⟨t42.1.Window.Low, t42.1.Window.Seen⟩ : WindowWindow)⟩ : PortPort) } : Switchboardlaw23Net).got) (Int.toNat (chr t42.2.1 1)) (i64w ((at0 (({ p0 with b := (⟨(⟨t42.1.Link.Next, t42.1.Link.Queue⟩ : LinkLink), (⟨t42.1.Window.Low, t42.1.Window.Seen⟩ : WindowWindow)⟩ : PortPort) } : Switchboardlaw23Net).got) (chr t42.2.1 1)) + 1))) } : Switchboardlaw23Net).back) ++ ([t42.2.2.2.1] : List Str)).length c99) hO rfl (Enc.mono _ le104 hr68) lSwitchboardlaw23Net_back rfl rfl rfl ⟨A98, c99, rfl, h105⟩ siz31 ?_
          intro cs106 w107 (hr108 : Enc.rep eSwitchboardlaw23Net H103 cs106 ({ ({ ({ p0 with b := (⟨(⟨t42.1.Link.Next, t42.1.Link.Queue⟩ : LinkLink), (⟨t42.1.Window.Low, t42.1.Window.Seen⟩ : WindowWindow)⟩ : PortPort) } : Switchboardlaw23Net) with got := (List.set (({ p0 with b := (⟨(⟨t42.1.Link.Next, t42.1.Link.Queue⟩ : LinkLink), (⟨t42.1.Window.Low, t42.1.Window.Seen⟩ : WindowWindow)⟩ : PortPort) } : Switchboardlaw23Net).got) (Int.toNat (chr t42.2.1 1)) (i64w ((at0 (({ p0 with b := (⟨(⟨t42.1.Link.Next, t42.1.Link.Queue⟩ : LinkLink), (⟨t42.1.Window.Low, t42.1.Window.Seen⟩ : WindowWindow)⟩ : PortPort) } : Switchboardlaw23Net).got) (chr t42.2.1 1)) + 1))) } : Switchboardlaw23Net) with back := ((([] : List Str) ++ ({ ({ p0 with b := (⟨(⟨t42.1.Link.Next, t42.1.Link.Queue⟩ : LinkLink), (⟨t42.1.Window.Low, t42.1.Window.Seen⟩ : WindowWindow)⟩ : PortPort) } : Switchboardlaw23Net) with got := (List.set (({ p0 with b := (⟨(⟨t42.1.Link.Next, t42.1.Link.Queue⟩ : LinkLink), (⟨t42.1.Window.Low, t42.1.Window.Seen⟩ : WindowWindow)⟩ : PortPort) } : Switchboardlaw23Net).got) (Int.toNat (chr t42.2.1 1)) (i64w ((at0 (({ p0 with b := (⟨(⟨t42.1.Link.Next, t42.1.Link.Queue⟩ : LinkLink), (⟨t42.1.Window.Low, t42.1.Window.Seen⟩ : WindowWindow)⟩ : PortPort) } : Switchboardlaw23Net).got) (chr t42.2.1 1)) + 1))) } : Switchboardlaw23Net).back) ++ ([t42.2.2.2.1] : List Str)) } : Switchboardlaw23Net)) hO
          refine WL.nil ?_
          refine W.seq ?_
          refine W.seq ?_
          refine W.region ?_
          refine WL.val (x_move (.bool p2) rfl) ?_
          refine WL.val (x_not rfl) ?_
          refine WL.nil ?_
          refine W.test rfl hm0 ?_ ?_
          · intro hb109 hm0
            refine W.region ?_
            refine WL.val (x_fa rfl fo34_2) ?_
            obtain ⟨cs110, hr111, hc112⟩ := lSwitchboardlaw23Net_there.part _ _ _ hr108
            obtain ⟨A113, c114, rfl, h115⟩ := hr111
            refine WL.val (x_ld 0 (.slice A113 (({ ({ ({ p0 with b := (⟨(⟨t42.1.Link.Next, t42.1.Link.Queue⟩ : LinkLink), (⟨t42.1.Window.Low, t42.1.Window.Seen⟩ : WindowWindow)⟩ : PortPort) } : Switchboardlaw23Net) with got := (List.set (({ p0 with b := (⟨(⟨t42.1.Link.Next, t42.1.Link.Queue⟩ : LinkLink), (⟨t42.1.Window.Low, t42.1.Window.Seen⟩ : WindowWindow)⟩ : PortPort) } : Switchboardlaw23Net).got) (Int.toNat (chr t42.2.1 1)) (i64w ((at0 (({ p0 with b := (⟨(⟨t42.1.Link.Next, t42.1.Link.Queue⟩ : LinkLink), (⟨t42.1.Window.Low, t42.1.Window.Seen⟩ : WindowWindow)⟩ : PortPort) } : Switchboardlaw23Net).got) (chr t42.2.1 1)) + 1))) } : Switchboardlaw23Net) with back := ((([] : List Str) ++ ({ ({ p0 with b := (⟨(⟨t42.1.Link.Next, t42.1.Link.Queue⟩ : LinkLink), (⟨t42.1.Window.Low, t42.1.Window.Seen⟩ : WindowWindow)⟩ : PortPort) } : Switchboardlaw23Net) with got := (List.set (({ p0 with b := (⟨(⟨t42.1.Link.Next, t42.1.Link.Queue⟩ : LinkLink), (⟨t42.1.Window.Low, t42.1.Window.Seen⟩ : WindowWindow)⟩ : PortPort) } : Switchboardlaw23Net).got) (Int.toNat (chr t42.2.1 1)) (i64w ((at0 (({ p0 with b := (⟨(⟨t42.1.Link.Next, t42.1.Link.Queue⟩ : LinkLink), (⟨t42.1.Window.Low, t42.1.Window.Seen⟩ : WindowWindow)⟩ : PortPort) } : Switchboardlaw23Net).got) (chr t42.2.1 1)) + 1))) } : Switchboardlaw23Net).back) ++ ([t42.2.2.2.1] : List Str)) } : Switchboardlaw23Net).there).length c114) hO rfl rfl (hc112 0 _ rfl) one31) ?_
            refine WL.val (x_move (.int .i64 (Int.tmod p1 (p0.there.length : Int))) rfl) ?_
            obtain ⟨t116, ht117, hm0⟩ := bindSome hm0
            refine o_call hO go11 (switchboardref08_Without_ok hO.sub h115 ht117) rfl ?_
            rintro _ H118 w119 le120 ⟨A121, c122, rfl, h123⟩ hO
            refine WL.val (x_fa rfl fo34_2) ?_
            refine o_stP 0 (.slice A121 t116.length c122) hO rfl (Enc.mono _ le120 hr108) lSwitchboardlaw23Net_there rfl rfl rfl ⟨A121, c122, rfl, h123⟩ siz31 ?_
            intro cs124 w125 (hr126 : Enc.rep eSwitchboardlaw23Net H118 cs124 ({ ({ ({ ({ p0 with b := (⟨(⟨t42.1.Link.Next, t42.1.Link.Queue⟩ : LinkLink), (⟨t42.1.Window.Low, t42.1.Window.Seen⟩ : WindowWindow)⟩ : PortPort) } : Switchboardlaw23Net) with got := (List.set (({ p0 with b := (⟨(⟨t42.1.Link.Next, t42.1.Link.Queue⟩ : LinkLink), (⟨t42.1.Window.Low, t42.1.Window.Seen⟩ : WindowWindow)⟩ : PortPort) } : Switchboardlaw23Net).got) (Int.toNat (chr t42.2.1 1)) (i64w ((at0 (({ p0 with b := (⟨(⟨t42.1.Link.Next, t42.1.Link.Queue⟩ : LinkLink), (⟨t42.1.Window.Low, t42.1.Window.Seen⟩ : WindowWindow)⟩ : PortPort) } : Switchboardlaw23Net).got) (chr t42.2.1 1)) + 1))) } : Switchboardlaw23Net) with back := ((([] : List Str) ++ ({ ({ p0 with b := (⟨(⟨t42.1.Link.Next, t42.1.Link.Queue⟩ : LinkLink), (⟨t42.1.Window.Low, t42.1.Window.Seen⟩ : WindowWindow)⟩ : PortPort) } : Switchboardlaw23Net) with got := (List.set (({ p0 with b := (⟨(⟨t42.1.Link.Next, t42.1.Link.Queue⟩ : LinkLink), (⟨t42.1.Window.Low, t42.1.Window.Seen⟩ : WindowWindow)⟩ : PortPort) } : Switchboardlaw23Net).got) (Int.toNat (chr t42.2.1 1)) (i64w ((at0 (({ p0 with b := (⟨(⟨t42.1.Link.Next, t42.1.Link.Queue⟩ : LinkLink), (⟨t42.1.Window.Low, t42.1.Window.Seen⟩ : WindowWindow)⟩ : PortPort) } : Switchboardlaw23Net).got) (chr t42.2.1 1)) + 1))) } : Switchboardlaw23Net).back) ++ ([t42.2.2.2.1] : List Str)) } : Switchboardlaw23Net) with there := t116 } : Switchboardlaw23Net)) hO
            refine WL.nil ?_
            refine W.seq ?_
            refine W.region ?_
            refine WL.val (x_lds 0 cs124 hO rfl rfl agg34 (whole_take (rep_len hr126 rfl)) (rep_len hr126 rfl)) ?_
            refine o_stP 1 (.agg cs124.toArray) hO rfl (zr34 _) (Lens.refl _) rfl rfl rfl hr126 siz34 ?_
            intro cs127 w128 (hr129 : Enc.rep eSwitchboardlaw23Net H118 cs127 ({ ({ ({ ({ p0 with b := (⟨(⟨t42.1.Link.Next, t42.1.Link.Queue⟩ : LinkLink), (⟨t42.1.Window.Low, t42.1.Window.Seen⟩ : WindowWindow)⟩ : PortPort) } : Switchboardlaw23Net) with got := (List.set (({ p0 with b := (⟨(⟨t42.1.Link.Next, t42.1.Link.Queue⟩ : LinkLink), (⟨t42.1.Window.Low, t42.1.Window.Seen⟩ : WindowWindow)⟩ : PortPort) } : Switchboardlaw23Net).got) (Int.toNat (chr t42.2.1 1)) (i64w ((at0 (({ p0 with b := (⟨(⟨t42.1.Link.Next, t42.1.Link.Queue⟩ : LinkLink), (⟨t42.1.Window.Low, t42.1.Window.Seen⟩ : WindowWindow)⟩ : PortPort) } : Switchboardlaw23Net).got) (chr t42.2.1 1)) + 1))) } : Switchboardlaw23Net) with back := ((([] : List Str) ++ ({ ({ p0 with b := (⟨(⟨t42.1.Link.Next, t42.1.Link.Queue⟩ : LinkLink), (⟨t42.1.Window.Low, t42.1.Window.Seen⟩ : WindowWindow)⟩ : PortPort) } : Switchboardlaw23Net) with got := (List.set (({ p0 with b := (⟨(⟨t42.1.Link.Next, t42.1.Link.Queue⟩ : LinkLink), (⟨t42.1.Window.Low, t42.1.Window.Seen⟩ : WindowWindow)⟩ : PortPort) } : Switchboardlaw23Net).got) (Int.toNat (chr t42.2.1 1)) (i64w ((at0 (({ p0 with b := (⟨(⟨t42.1.Link.Next, t42.1.Link.Queue⟩ : LinkLink), (⟨t42.1.Window.Low, t42.1.Window.Seen⟩ : WindowWindow)⟩ : PortPort) } : Switchboardlaw23Net).got) (chr t42.2.1 1)) + 1))) } : Switchboardlaw23Net).back) ++ ([t42.2.2.2.1] : List Str)) } : Switchboardlaw23Net) with there := t116 } : Switchboardlaw23Net)) hO
            refine WL.nil ?_
            refine W.ret ?_
            obtain rfl := Option.some.inj hm0
            exact ⟨[(.agg cs127.toArray)], ⟨⟨_, rfl, hO.ldBlk 1 rfl agg34 (whole_take (rep_len hr129 rfl)) (rep_len hr129 rfl)⟩, trivial⟩, H118, _, ⟨cs127, rfl, hr129⟩, hO⟩
          · intro hb109 hm0
            refine W.skip ?_
            refine W.seq ?_
            refine W.region ?_
            refine WL.val (x_lds 0 cs106 hO rfl rfl agg34 (whole_take (rep_len hr108 rfl)) (rep_len hr108 rfl)) ?_
            refine o_stP 1 (.agg cs106.toArray) hO rfl (zr34 _) (Lens.refl _) rfl rfl rfl hr108 siz34 ?_
            intro cs130 w131 (hr132 : Enc.rep eSwitchboardlaw23Net H103 cs130 ({ ({ ({ p0 with b := (⟨(⟨t42.1.Link.Next, t42.1.Link.Queue⟩ : LinkLink), (⟨t42.1.Window.Low, t42.1.Window.Seen⟩ : WindowWindow)⟩ : PortPort) } : Switchboardlaw23Net) with got := (List.set (({ p0 with b := (⟨(⟨t42.1.Link.Next, t42.1.Link.Queue⟩ : LinkLink), (⟨t42.1.Window.Low, t42.1.Window.Seen⟩ : WindowWindow)⟩ : PortPort) } : Switchboardlaw23Net).got) (Int.toNat (chr t42.2.1 1)) (i64w ((at0 (({ p0 with b := (⟨(⟨t42.1.Link.Next, t42.1.Link.Queue⟩ : LinkLink), (⟨t42.1.Window.Low, t42.1.Window.Seen⟩ : WindowWindow)⟩ : PortPort) } : Switchboardlaw23Net).got) (chr t42.2.1 1)) + 1))) } : Switchboardlaw23Net) with back := ((([] : List Str) ++ ({ ({ p0 with b := (⟨(⟨t42.1.Link.Next, t42.1.Link.Queue⟩ : LinkLink), (⟨t42.1.Window.Low, t42.1.Window.Seen⟩ : WindowWindow)⟩ : PortPort) } : Switchboardlaw23Net) with got := (List.set (({ p0 with b := (⟨(⟨t42.1.Link.Next, t42.1.Link.Queue⟩ : LinkLink), (⟨t42.1.Window.Low, t42.1.Window.Seen⟩ : WindowWindow)⟩ : PortPort) } : Switchboardlaw23Net).got) (Int.toNat (chr t42.2.1 1)) (i64w ((at0 (({ p0 with b := (⟨(⟨t42.1.Link.Next, t42.1.Link.Queue⟩ : LinkLink), (⟨t42.1.Window.Low, t42.1.Window.Seen⟩ : WindowWindow)⟩ : PortPort) } : Switchboardlaw23Net).got) (chr t42.2.1 1)) + 1))) } : Switchboardlaw23Net).back) ++ ([t42.2.2.2.1] : List Str)) } : Switchboardlaw23Net)) hO
            refine WL.nil ?_
            refine W.ret ?_
            obtain rfl := Option.some.inj hm0
            exact ⟨[(.agg cs130.toArray)], ⟨⟨_, rfl, hO.ldBlk 1 rfl agg34 (whole_take (rep_len hr132 rfl)) (rep_len hr132 rfl)⟩, trivial⟩, H103, _, ⟨cs130, rfl, hr132⟩, hO⟩
        · intro hb75 hm0
          refine W.skip ?_
          refine W.seq ?_
          refine W.seq ?_
          refine W.region ?_
          refine WL.val (x_move (.bool p2) rfl) ?_
          refine WL.val (x_not rfl) ?_
          refine WL.nil ?_
          refine W.test rfl hm0 ?_ ?_
          · intro hb133 hm0
            refine W.region ?_
            refine WL.val (x_fa rfl fo34_2) ?_
            obtain ⟨cs134, hr135, hc136⟩ := lSwitchboardlaw23Net_there.part _ _ _ hr68
            obtain ⟨A137, c138, rfl, h139⟩ := hr135
            refine WL.val (x_ld 0 (.slice A137 (({ ({ p0 with b := (⟨(⟨t42.1.Link.Next, t42.1.Link.Queue⟩ : LinkLink), (⟨t42.1.Window.Low, t42.1.Window.Seen⟩ : WindowWindow)⟩ : PortPort) } : Switchboardlaw23Net) with got := (List.set (({ p0 with b := (⟨(⟨t42.1.Link.Next, t42.1.Link.Queue⟩ : LinkLink), (⟨t42.1.Window.Low, t42.1.Window.Seen⟩ : WindowWindow)⟩ : PortPort) } : Switchboardlaw23Net).got) (Int.toNat (chr t42.2.1 1)) (i64w ((at0 (({ p0 with b := (⟨(⟨t42.1.Link.Next, t42.1.Link.Queue⟩ : LinkLink), (⟨t42.1.Window.Low, t42.1.Window.Seen⟩ : WindowWindow)⟩ : PortPort) } : Switchboardlaw23Net).got) (chr t42.2.1 1)) + 1))) } : Switchboardlaw23Net).there).length c138) hO rfl rfl (hc136 0 _ rfl) one31) ?_
            refine WL.val (x_move (.int .i64 (Int.tmod p1 (p0.there.length : Int))) rfl) ?_
            obtain ⟨t140, ht141, hm0⟩ := bindSome hm0
            refine o_call hO go11 (switchboardref08_Without_ok hO.sub h139 ht141) rfl ?_
            rintro _ H142 w143 le144 ⟨A145, c146, rfl, h147⟩ hO
            refine WL.val (x_fa rfl fo34_2) ?_
            refine o_stP 0 (.slice A145 t140.length c146) hO rfl (Enc.mono _ le144 hr68) lSwitchboardlaw23Net_there rfl rfl rfl ⟨A145, c146, rfl, h147⟩ siz31 ?_
            intro cs148 w149 (hr150 : Enc.rep eSwitchboardlaw23Net H142 cs148 ({ ({ ({ p0 with b := (⟨(⟨t42.1.Link.Next, t42.1.Link.Queue⟩ : LinkLink), (⟨t42.1.Window.Low, t42.1.Window.Seen⟩ : WindowWindow)⟩ : PortPort) } : Switchboardlaw23Net) with got := (List.set (({ p0 with b := (⟨(⟨t42.1.Link.Next, t42.1.Link.Queue⟩ : LinkLink), (⟨t42.1.Window.Low, t42.1.Window.Seen⟩ : WindowWindow)⟩ : PortPort) } : Switchboardlaw23Net).got) (Int.toNat (chr t42.2.1 1)) (i64w ((at0 (({ p0 with b := (⟨(⟨t42.1.Link.Next, t42.1.Link.Queue⟩ : LinkLink), (⟨t42.1.Window.Low, t42.1.Window.Seen⟩ : WindowWindow)⟩ : PortPort) } : Switchboardlaw23Net).got) (chr t42.2.1 1)) + 1))) } : Switchboardlaw23Net) with there := t140 } : Switchboardlaw23Net)) hO
            refine WL.nil ?_
            refine W.seq ?_
            refine W.region ?_
            refine WL.val (x_lds 0 cs148 hO rfl rfl agg34 (whole_take (rep_len hr150 rfl)) (rep_len hr150 rfl)) ?_
            refine o_stP 1 (.agg cs148.toArray) hO rfl (zr34 _) (Lens.refl _) rfl rfl rfl hr150 siz34 ?_
            intro cs151 w152 (hr153 : Enc.rep eSwitchboardlaw23Net H142 cs151 ({ ({ ({ p0 with b := (⟨(⟨t42.1.Link.Next, t42.1.Link.Queue⟩ : LinkLink), (⟨t42.1.Window.Low, t42.1.Window.Seen⟩ : WindowWindow)⟩ : PortPort) } : Switchboardlaw23Net) with got := (List.set (({ p0 with b := (⟨(⟨t42.1.Link.Next, t42.1.Link.Queue⟩ : LinkLink), (⟨t42.1.Window.Low, t42.1.Window.Seen⟩ : WindowWindow)⟩ : PortPort) } : Switchboardlaw23Net).got) (Int.toNat (chr t42.2.1 1)) (i64w ((at0 (({ p0 with b := (⟨(⟨t42.1.Link.Next, t42.1.Link.Queue⟩ : LinkLink), (⟨t42.1.Window.Low, t42.1.Window.Seen⟩ : WindowWindow)⟩ : PortPort) } : Switchboardlaw23Net).got) (chr t42.2.1 1)) + 1))) } : Switchboardlaw23Net) with there := t140 } : Switchboardlaw23Net)) hO
            refine WL.nil ?_
            refine W.ret ?_
            obtain rfl := Option.some.inj hm0
            exact ⟨[(.agg cs151.toArray)], ⟨⟨_, rfl, hO.ldBlk 1 rfl agg34 (whole_take (rep_len hr153 rfl)) (rep_len hr153 rfl)⟩, trivial⟩, H142, _, ⟨cs151, rfl, hr153⟩, hO⟩
          · intro hb133 hm0
            refine W.skip ?_
            refine W.seq ?_
            refine W.region ?_
            refine WL.val (x_lds 0 cs66 hO rfl rfl agg34 (whole_take (rep_len hr68 rfl)) (rep_len hr68 rfl)) ?_
            refine o_stP 1 (.agg cs66.toArray) hO rfl (zr34 _) (Lens.refl _) rfl rfl rfl hr68 siz34 ?_
            intro cs154 w155 (hr156 : Enc.rep eSwitchboardlaw23Net H46 cs154 ({ ({ p0 with b := (⟨(⟨t42.1.Link.Next, t42.1.Link.Queue⟩ : LinkLink), (⟨t42.1.Window.Low, t42.1.Window.Seen⟩ : WindowWindow)⟩ : PortPort) } : Switchboardlaw23Net) with got := (List.set (({ p0 with b := (⟨(⟨t42.1.Link.Next, t42.1.Link.Queue⟩ : LinkLink), (⟨t42.1.Window.Low, t42.1.Window.Seen⟩ : WindowWindow)⟩ : PortPort) } : Switchboardlaw23Net).got) (Int.toNat (chr t42.2.1 1)) (i64w ((at0 (({ p0 with b := (⟨(⟨t42.1.Link.Next, t42.1.Link.Queue⟩ : LinkLink), (⟨t42.1.Window.Low, t42.1.Window.Seen⟩ : WindowWindow)⟩ : PortPort) } : Switchboardlaw23Net).got) (chr t42.2.1 1)) + 1))) } : Switchboardlaw23Net)) hO
            refine WL.nil ?_
            refine W.ret ?_
            obtain rfl := Option.some.inj hm0
            exact ⟨[(.agg cs154.toArray)], ⟨⟨_, rfl, hO.ldBlk 1 rfl agg34 (whole_take (rep_len hr156 rfl)) (rep_len hr156 rfl)⟩, trivial⟩, H46, _, ⟨cs154, rfl, hr156⟩, hO⟩
      · intro hb59 hm0
        refine W.skip ?_
        refine W.seq ?_
        refine W.seq ?_
        refine W.region ?_
        refine WL.val (x_fa rfl fo34_3) ?_
        obtain ⟨cs157, hr158, hc159⟩ := lSwitchboardlaw23Net_back.part _ _ _ hr58
        obtain ⟨A160, c161, rfl, h162⟩ := hr158
        refine WL.val (x_ld 0 (.slice A160 (({ p0 with b := (⟨(⟨t42.1.Link.Next, t42.1.Link.Queue⟩ : LinkLink), (⟨t42.1.Window.Low, t42.1.Window.Seen⟩ : WindowWindow)⟩ : PortPort) } : Switchboardlaw23Net).back).length c161) hO rfl rfl (hc159 0 _ rfl) one31) ?_
        refine WL.val (x_len rfl Try.underlying31) ?_
        refine WL.val (x_lss rfl rfl) ?_
        refine WL.nil ?_
        refine W.test rfl hm0 ?_ ?_
        · intro hb163 hm0
          refine W.region ?_
          refine o_litT (en := eStr) 10 [] ([] : List Str) hO sli31 trivial rfl rfl rfl ?_
          intro g164 cs165 w166 hr167 hO
          refine WL.val (x_fa rfl fo34_3) ?_
          obtain ⟨cs168, hr169, hc170⟩ := lSwitchboardlaw23Net_back.part _ _ _ hr58
          obtain ⟨A171, c172, rfl, h173⟩ := hr169
          refine WL.val (x_ld 0 (.slice A171 (({ p0 with b := (⟨(⟨t42.1.Link.Next, t42.1.Link.Queue⟩ : LinkLink), (⟨t42.1.Window.Low, t42.1.Window.Seen⟩ : WindowWindow)⟩ : PortPort) } : Switchboardlaw23Net).back).length c172) hO rfl rfl (hc170 0 _ rfl) one31) ?_
          obtain ⟨cs174, hs175, hr176⟩ := RS.src h173 hO
          refine o_appT (en := eStr) (xs := ([] : List Str)) (ys := ({ p0 with b := (⟨(⟨t42.1.Link.Next, t42.1.Link.Queue⟩ : LinkLink), (⟨t42.1.Window.Low, t42.1.Window.Seen⟩ : WindowWindow)⟩ : PortPort) } : Switchboardlaw23Net).back) 10 hO rfl hr167 rfl rfl hs175 hr176 sli31 rfl rfl Try.underlying31 hm0 ?_
          intro A177 c178 cs179 w180 hr181 hO hm0
          refine WL.val (x_move (vs t42.2.2.2.1) rfl) ?_
          refine o_litT (en := eStr) 11 [(vs t42.2.2.2.1)] ([t42.2.2.2.1] : List Str) hO sli31 ⟨rfl, trivial⟩ rfl rfl rfl ?_
          intro g182 cs183 w184 hr185 hO
          refine o_appT (en := eStr) (xs := (([] : List Str) ++ ({ p0 with b := (⟨(⟨t42.1.Link.Next, t42.1.Link.Queue⟩ : LinkLink), (⟨t42.1.Window.Low, t42.1.Window.Seen⟩ : WindowWindow)⟩ : PortPort) } : Switchboardlaw23Net).back)) (ys := ([t42.2.2.2.1] : List Str)) 10 hO rfl hr181 rfl rfl (Src.row (k := 11) hO rfl) hr185 sli31 rfl rfl Try.underlying31 hm0 ?_
          intro A186 c187 cs188 w189 hr190 hO hm0
          refine WL.val (x_fa rfl fo34_3) ?_
          obtain ⟨H191, le192, h193, hO⟩ := hO.freezeRow (en := eStr) 10 rfl rfl rfl hr190
          refine o_stP 0 (.slice A186 ((([] : List Str) ++ ({ p0 with b := (⟨(⟨t42.1.Link.Next, t42.1.Link.Queue⟩ : LinkLink), (⟨t42.1.Window.Low, t42.1.Window.Seen⟩ : WindowWindow)⟩ : PortPort) } : Switchboardlaw23Net).back) ++ ([t42.2.2.2.1] : List Str)).length c187) hO rfl (Enc.mono _ le192 hr58) lSwitchboardlaw23Net_back rfl rfl rfl ⟨A186, c187, rfl, h193⟩ siz31 ?_
          intro cs194 w195 (hr196 : Enc.rep eSwitchboardlaw23Net H191 cs194 ({ ({ p0 with b := (⟨(⟨t42.1.Link.Next, t42.1.Link.Queue⟩ : LinkLink), (⟨t42.1.Window.Low, t42.1.Window.Seen⟩ : WindowWindow)⟩ : PortPort) } : Switchboardlaw23Net) with back := ((([] : List Str) ++ ({ p0 with b := (⟨(⟨t42.1.Link.Next, t42.1.Link.Queue⟩ : LinkLink), (⟨t42.1.Window.Low, t42.1.Window.Seen⟩ : WindowWindow)⟩ : PortPort) } : Switchboardlaw23Net).back) ++ ([t42.2.2.2.1] : List Str)) } : Switchboardlaw23Net)) hO
          refine WL.nil ?_
          refine W.seq ?_
          refine W.seq ?_
          refine W.region ?_
          refine WL.val (x_move (.bool p2) rfl) ?_
          refine WL.val (x_not rfl) ?_
          refine WL.nil ?_
          refine W.test rfl hm0 ?_ ?_
          · intro hb197 hm0
            refine W.region ?_
            refine WL.val (x_fa rfl fo34_2) ?_
            obtain ⟨cs198, hr199, hc200⟩ := lSwitchboardlaw23Net_there.part _ _ _ hr196
            obtain ⟨A201, c202, rfl, h203⟩ := hr199
            refine WL.val (x_ld 0 (.slice A201 (({ ({ p0 with b := (⟨(⟨t42.1.Link.Next, t42.1.Link.Queue⟩ : LinkLink), (⟨t42.1.Window.Low, t42.1.Window.Seen⟩ : WindowWindow)⟩ : PortPort) } : Switchboardlaw23Net) with back := ((([] : List Str) ++ ({ p0 with b := (⟨(⟨t42.1.Link.Next, t42.1.Link.Queue⟩ : LinkLink), (⟨t42.1.Window.Low, t42.1.Window.Seen⟩ : WindowWindow)⟩ : PortPort) } : Switchboardlaw23Net).back) ++ ([t42.2.2.2.1] : List Str)) } : Switchboardlaw23Net).there).length c202) hO rfl rfl (hc200 0 _ rfl) one31) ?_
            refine WL.val (x_move (.int .i64 (Int.tmod p1 (p0.there.length : Int))) rfl) ?_
            obtain ⟨t204, ht205, hm0⟩ := bindSome hm0
            refine o_call hO go11 (switchboardref08_Without_ok hO.sub h203 ht205) rfl ?_
            rintro _ H206 w207 le208 ⟨A209, c210, rfl, h211⟩ hO
            refine WL.val (x_fa rfl fo34_2) ?_
            refine o_stP 0 (.slice A209 t204.length c210) hO rfl (Enc.mono _ le208 hr196) lSwitchboardlaw23Net_there rfl rfl rfl ⟨A209, c210, rfl, h211⟩ siz31 ?_
            intro cs212 w213 (hr214 : Enc.rep eSwitchboardlaw23Net H206 cs212 ({ ({ ({ p0 with b := (⟨(⟨t42.1.Link.Next, t42.1.Link.Queue⟩ : LinkLink), (⟨t42.1.Window.Low, t42.1.Window.Seen⟩ : WindowWindow)⟩ : PortPort) } : Switchboardlaw23Net) with back := ((([] : List Str) ++ ({ p0 with b := (⟨(⟨t42.1.Link.Next, t42.1.Link.Queue⟩ : LinkLink), (⟨t42.1.Window.Low, t42.1.Window.Seen⟩ : WindowWindow)⟩ : PortPort) } : Switchboardlaw23Net).back) ++ ([t42.2.2.2.1] : List Str)) } : Switchboardlaw23Net) with there := t204 } : Switchboardlaw23Net)) hO
            refine WL.nil ?_
            refine W.seq ?_
            refine W.region ?_
            refine WL.val (x_lds 0 cs212 hO rfl rfl agg34 (whole_take (rep_len hr214 rfl)) (rep_len hr214 rfl)) ?_
            refine o_stP 1 (.agg cs212.toArray) hO rfl (zr34 _) (Lens.refl _) rfl rfl rfl hr214 siz34 ?_
            intro cs215 w216 (hr217 : Enc.rep eSwitchboardlaw23Net H206 cs215 ({ ({ ({ p0 with b := (⟨(⟨t42.1.Link.Next, t42.1.Link.Queue⟩ : LinkLink), (⟨t42.1.Window.Low, t42.1.Window.Seen⟩ : WindowWindow)⟩ : PortPort) } : Switchboardlaw23Net) with back := ((([] : List Str) ++ ({ p0 with b := (⟨(⟨t42.1.Link.Next, t42.1.Link.Queue⟩ : LinkLink), (⟨t42.1.Window.Low, t42.1.Window.Seen⟩ : WindowWindow)⟩ : PortPort) } : Switchboardlaw23Net).back) ++ ([t42.2.2.2.1] : List Str)) } : Switchboardlaw23Net) with there := t204 } : Switchboardlaw23Net)) hO
            refine WL.nil ?_
            refine W.ret ?_
            obtain rfl := Option.some.inj hm0
            exact ⟨[(.agg cs215.toArray)], ⟨⟨_, rfl, hO.ldBlk 1 rfl agg34 (whole_take (rep_len hr217 rfl)) (rep_len hr217 rfl)⟩, trivial⟩, H206, _, ⟨cs215, rfl, hr217⟩, hO⟩
          · intro hb197 hm0
            refine W.skip ?_
            refine W.seq ?_
            refine W.region ?_
            refine WL.val (x_lds 0 cs194 hO rfl rfl agg34 (whole_take (rep_len hr196 rfl)) (rep_len hr196 rfl)) ?_
            refine o_stP 1 (.agg cs194.toArray) hO rfl (zr34 _) (Lens.refl _) rfl rfl rfl hr196 siz34 ?_
            intro cs218 w219 (hr220 : Enc.rep eSwitchboardlaw23Net H191 cs218 ({ ({ p0 with b := (⟨(⟨t42.1.Link.Next, t42.1.Link.Queue⟩ : LinkLink), (⟨t42.1.Window.Low, t42.1.Window.Seen⟩ : WindowWindow)⟩ : PortPort) } : Switchboardlaw23Net) with back := ((([] : List Str) ++ ({ p0 with b := (⟨(⟨t42.1.Link.Next, t42.1.Link.Queue⟩ : LinkLink), (⟨t42.1.Window.Low, t42.1.Window.Seen⟩ : WindowWindow)⟩ : PortPort) } : Switchboardlaw23Net).back) ++ ([t42.2.2.2.1] : List Str)) } : Switchboardlaw23Net)) hO
            refine WL.nil ?_
            refine W.ret ?_
            obtain rfl := Option.some.inj hm0
            exact ⟨[(.agg cs218.toArray)], ⟨⟨_, rfl, hO.ldBlk 1 rfl agg34 (whole_take (rep_len hr220 rfl)) (rep_len hr220 rfl)⟩, trivial⟩, H191, _, ⟨cs218, rfl, hr220⟩, hO⟩
        · intro hb163 hm0
          refine W.skip ?_
          refine W.seq ?_
          refine W.seq ?_
          refine W.region ?_
          refine WL.val (x_move (.bool p2) rfl) ?_
          refine WL.val (x_not rfl) ?_
          refine WL.nil ?_
          refine W.test rfl hm0 ?_ ?_
          · intro hb221 hm0
            refine W.region ?_
            refine WL.val (x_fa rfl fo34_2) ?_
            obtain ⟨cs222, hr223, hc224⟩ := lSwitchboardlaw23Net_there.part _ _ _ hr58
            obtain ⟨A225, c226, rfl, h227⟩ := hr223
            refine WL.val (x_ld 0 (.slice A225 (({ p0 with b := (⟨(⟨t42.1.Link.Next, t42.1.Link.Queue⟩ : LinkLink), (⟨t42.1.Window.Low, t42.1.Window.Seen⟩ : WindowWindow)⟩ : PortPort) } : Switchboardlaw23Net).there).length c226) hO rfl rfl (hc224 0 _ rfl) one31) ?_
            refine WL.val (x_move (.int .i64 (Int.tmod p1 (p0.there.length : Int))) rfl) ?_
            obtain ⟨t228, ht229, hm0⟩ := bindSome hm0
            refine o_call hO go11 (switchboardref08_Without_ok hO.sub h227 ht229) rfl ?_
            rintro _ H230 w231 le232 ⟨A233, c234, rfl, h235⟩ hO
            refine WL.val (x_fa rfl fo34_2) ?_
            refine o_stP 0 (.slice A233 t228.length c234) hO rfl (Enc.mono _ le232 hr58) lSwitchboardlaw23Net_there rfl rfl rfl ⟨A233, c234, rfl, h235⟩ siz31 ?_
            intro cs236 w237 (hr238 : Enc.rep eSwitchboardlaw23Net H230 cs236 ({ ({ p0 with b := (⟨(⟨t42.1.Link.Next, t42.1.Link.Queue⟩ : LinkLink), (⟨t42.1.Window.Low, t42.1.Window.Seen⟩ : WindowWindow)⟩ : PortPort) } : Switchboardlaw23Net) with there := t228 } : Switchboardlaw23Net)) hO
            refine WL.nil ?_
            refine W.seq ?_
            refine W.region ?_
            refine WL.val (x_lds 0 cs236 hO rfl rfl agg34 (whole_take (rep_len hr238 rfl)) (rep_len hr238 rfl)) ?_
            refine o_stP 1 (.agg cs236.toArray) hO rfl (zr34 _) (Lens.refl _) rfl rfl rfl hr238 siz34 ?_
            intro cs239 w240 (hr241 : Enc.rep eSwitchboardlaw23Net H230 cs239 ({ ({ p0 with b := (⟨(⟨t42.1.Link.Next, t42.1.Link.Queue⟩ : LinkLink), (⟨t42.1.Window.Low, t42.1.Window.Seen⟩ : WindowWindow)⟩ : PortPort) } : Switchboardlaw23Net) with there := t228 } : Switchboardlaw23Net)) hO
            refine WL.nil ?_
            refine W.ret ?_
            obtain rfl := Option.some.inj hm0
            exact ⟨[(.agg cs239.toArray)], ⟨⟨_, rfl, hO.ldBlk 1 rfl agg34 (whole_take (rep_len hr241 rfl)) (rep_len hr241 rfl)⟩, trivial⟩, H230, _, ⟨cs239, rfl, hr241⟩, hO⟩
          · intro hb221 hm0
            refine W.skip ?_
            refine W.seq ?_
            refine W.region ?_
            refine WL.val (x_lds 0 cs56 hO rfl rfl agg34 (whole_take (rep_len hr58 rfl)) (rep_len hr58 rfl)) ?_
            refine o_stP 1 (.agg cs56.toArray) hO rfl (zr34 _) (Lens.refl _) rfl rfl rfl hr58 siz34 ?_
            intro cs242 w243 (hr244 : Enc.rep eSwitchboardlaw23Net H46 cs242 ({ p0 with b := (⟨(⟨t42.1.Link.Next, t42.1.Link.Queue⟩ : LinkLink), (⟨t42.1.Window.Low, t42.1.Window.Seen⟩ : WindowWindow)⟩ : PortPort) } : Switchboardlaw23Net)) hO
            refine WL.nil ?_
            refine W.ret ?_
            obtain rfl := Option.some.inj hm0
            exact ⟨[(.agg cs242.toArray)], ⟨⟨_, rfl, hO.ldBlk 1 rfl agg34 (whole_take (rep_len hr244 rfl)) (rep_len hr244 rfl)⟩, trivial⟩, H46, _, ⟨cs242, rfl, hr244⟩, hO⟩

end Go.Sw

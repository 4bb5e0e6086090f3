/- The calls compute the mirrors. -/
import Derived.Test.YtahaedoeckgidaaZtC2
set_option linter.unusedVariables false
set_option linter.unusedSimpArgs false
set_option maxRecDepth 100000
namespace Go.Sw
open Go.Proofs

theorem link_Right_ok {w0 : World} {H0 : IHeap} (hS : Sub H0 w0) {p0 : LinkLink}  {A1_ : Option Addr} {c1_ : Nat} (h1_ : RS eLinkFrame H0 A1_ c1_ p0.Queue) {res : Bool} (hm0 : link_Right p0 = some res) :
    Ok Try.prog 20 [(.agg ([(.int .i64 p0.Next), (.slice A1_ p0.Queue.length c1_)] : List Value).toArray)].toArray w0 H0 (fun H' v => v = (.bool res)) := by
  unfold link_Right at hm0
  refine ok_of_W Try.func20 rfl Try.ntmps20 (ts := [2]) rfl rfl rfl ?_
  have hO := St.start hS
  refine W.seq ?_
  refine W.region ?_
  refine o_box 0 [(.int .i64 p0.Next), (.slice A1_ p0.Queue.length c1_)] hO rfl ?_
  intro g1 w2 hO
  refine WL.val (x_assign (.bool false) rfl) ?_
  refine WL.nil ?_
  refine W.seq ?_
  refine W.region ?_
  refine WL.val (x_assign (.int .i64 (-1)) rfl) ?_
  refine WL.nil ?_
  refine W.seq ?_
  refine W.seq ?_
  refine W.region ?_
  refine WL.val (x_fa rfl fo25_1) ?_
  refine WL.val (x_ld 0 (.slice A1_ p0.Queue.length c1_) hO rfl rfl rfl one23) ?_
  refine WL.val (x_len rfl Try.underlying23) ?_
  refine WL.val (x_move (.int .i64 0) rfl) ?_
  refine WL.nil ?_
  obtain ⟨o3, hm1, hm0⟩ := bindSome hm0
  have hO := hO.pick [(0, .blk g1 [(.int .i64 p0.Next), (.slice A1_ p0.Queue.length c1_)] 25)] ⟨rfl, trivial⟩
  refine W.blockLoop (fun r w => ∃ (v9 : Int) (i6 : Nat) (H4 : IHeap), .out v9 = o3 ∧ Le H0 H4 ∧ St w0 H0 [] H4 (ol [(0, .blk g1 [(.int .i64 p0.Next), (.slice A1_ p0.Queue.length c1_)] 25)]) w ∧ r 1 = (.pointer (some ⟨g1, 0, none⟩))) (fun k r w => ∃ (i6 : Nat) (rest7 : List LinkFrame) (v9 : Int) (H4 : IHeap), k = rest7.length ∧ List.drop i6 p0.Queue = rest7 ∧ link_Right_l1 p0 rest7 i6 v9 = some o3 ∧ Le H0 H4 ∧ St w0 H0 [] H4 (ol [(0, .blk g1 [(.int .i64 p0.Next), (.slice A1_ p0.Queue.length c1_)] 25)]) w ∧ r 1 = (.pointer (some ⟨g1, 0, none⟩)) ∧ r 3 = (.int .i64 v9) ∧ r 7 = (.slice A1_ p0.Queue.length c1_) ∧ r 8 = (.int .i64 (p0.Queue.length : Int)) ∧ r 9 = (.int .i64 (i6 : Int))) (List.length p0.Queue) ?_ ?_ ?_
  · exact ⟨0, _, (-1), _, rfl, rfl, hm1, Le.refl _, hO, rfl, rfl, rfl, rfl, rfl⟩
  ·
    intro k r w
    rintro ⟨i6, rest7, v9, H4, rfl, hd10, hm1, le5, hO, f1_1, f3_1, f7_1, f8_1, f9_1⟩
    cases rest7 with
    | nil =>
      rw [link_Right_l1] at hm1
      have hlt := drop_nil hd10
      refine W.seq ?_
      refine W.region ?_
      refine WL.val (x_lss f9_1 f8_1) ?_
      refine WL.nil ?_
      refine W.seq ?_
      refine W.cond_f (kb rfl hlt) ?_
      refine W.exit _ rfl ?_
      obtain rfl := Option.some.inj hm1
      exact ⟨v9, i6, H4, rfl, le5, hO.pick _ ⟨rfl, trivial⟩, f1_1⟩
    | cons x8 rest7 =>
      rw [link_Right_l1] at hm1
      have hlt := drop_lt hd10
      have hnx := drop_next hd10
      have hinc := inc_len hlt h1_.1 h1_.2.1
      refine W.seq ?_
      refine W.region ?_
      refine WL.val (x_lss f9_1 f8_1) ?_
      refine WL.nil ?_
      refine W.seq ?_
      refine W.cond_t (kb rfl hlt) ?_
      refine W.skip ?_
      refine W.seq ?_
      refine W.block ?_
      refine W.seq ?_
      refine W.region ?_
      obtain ⟨a11, h12, hA13, hin⟩ := RS.atR (h1_.up le5) hd10
      refine WL.val (x_ia (sA f7_1 hA13) f9_1 sle23 hin) ?_
      obtain ⟨cs14, hr15, hc16⟩ := At.agg h12
      obtain rfl := hr15
      refine WL.val (x_ldv rfl (hc16 _ _ _ hO.sub agg50)) ?_
      refine o_alloc 1 _ [(.int .i64 0), (vs [])] zer50 hO rfl ?_
      intro g17 w18 hO
      refine o_sts 1 [(.int .i64 x8.Seq), (vs x8.Text)] hO rfl rfl rfl siz50 rfl (Nat.le_of_ble_eq_true rfl) (by simp [Value.oneCell', vs]) ?_
      intro w19 hO
      refine WL.nil ?_
      refine W.seq ?_
      refine W.seq ?_
      refine W.region ?_
      refine WL.val (x_fa rfl fo50_0) ?_
      refine WL.val (x_ld 1 (.int .i64 x8.Seq) hO rfl rfl rfl one3) ?_
      refine WL.val (x_move (.int .i64 v9) f3_1) ?_
      refine WL.val (x_leq rfl rfl) ?_
      refine WL.val (x_move (.bool (decide (x8.Seq ≤ v9))) rfl) ?_
      refine WL.gval rfl rfl (fun hb => x_fa rfl fo50_0) ?_
      refine WL.gval rfl rfl (fun hb => x_ld 1 (.int .i64 x8.Seq) hO rfl (gv hb) rfl one3) ?_
      refine WL.gval rfl rfl (fun hb => x_fa f1_1 fo25_0) ?_
      refine WL.gval rfl rfl (fun hb => x_ld 0 (.int .i64 p0.Next) hO rfl (gv hb) rfl one3) ?_
      refine WL.gval rfl rfl (fun hb => x_geq (gv hb) (gv hb)) ?_
      refine WL.val (x_pick rfl (.bool ((decide (x8.Seq ≤ v9)) || (decide (p0.Next ≤ x8.Seq)))) pick_or) ?_
      refine WL.nil ?_
      refine W.test rfl hm1 ?_ ?_
      · intro hb20 hm1
        refine W.seq ?_
        refine W.region ?_
        refine WL.val (x_assign (.bool false) rfl) ?_
        refine WL.nil ?_
        refine W.ret ?_
        obtain rfl := Option.some.inj hm1
        dsimp only at hm0
        obtain rfl := Option.some.inj hm0
        exact ⟨H4, rfl, hO.done⟩
      · intro hb20 hm1
        refine W.skip ?_
        refine W.region ?_
        refine WL.val (x_fa rfl fo50_0) ?_
        refine WL.val (x_ld 1 (.int .i64 x8.Seq) hO rfl rfl rfl one3) ?_
        refine WL.val (x_assign (.int .i64 x8.Seq) rfl) ?_
        refine WL.nil ?_
        refine W.region ?_
        refine WL.val (x_add f9_1 rfl) ?_
        refine WL.val (x_move (.int .i64 (i64w ((i6 : Int) + 1))) rfl) ?_
        refine WL.nil ?_
        exact ⟨_, Nat.lt_succ_self _, i6 + 1, rest7, x8.Seq, H4, rfl, hnx, hm1, le5, hO.pick _ ⟨rfl, trivial⟩, f1_1, rfl, f7_1, f8_1, (incv hinc)⟩
  · intro r w
    rintro ⟨v23, i24, H21, rfl, le22, hO, f25⟩
    dsimp only at hm0
    refine W.seq ?_
    refine W.region ?_
    refine WL.val (x_fa f25 fo25_0) ?_
    refine WL.val (x_ld 0 (.int .i64 p0.Next) hO rfl rfl rfl one3) ?_
    refine WL.val (x_geq rfl rfl) ?_
    refine WL.val (x_move (.bool (decide (0 ≤ p0.Next))) rfl) ?_
    refine WL.gval rfl rfl (fun hb => x_fa f25 fo25_0) ?_
    refine WL.gval rfl rfl (fun hb => x_ld 0 (.int .i64 p0.Next) hO rfl (gv hb) rfl one3) ?_
    refine WL.gval rfl rfl (fun hb => x_leq (gv hb) rfl) ?_
    refine WL.val (x_pick rfl (.bool ((decide (0 ≤ p0.Next)) && (decide (p0.Next ≤ 2147483647)))) pick_and) ?_
    refine WL.val (x_move (.bool ((decide (0 ≤ p0.Next)) && (decide (p0.Next ≤ 2147483647)))) rfl) ?_
    refine WL.gval rfl rfl (fun hb => x_fa f25 fo25_1) ?_
    refine WL.gval rfl rfl (fun hb => x_ld 0 (.slice A1_ p0.Queue.length c1_) hO rfl (gv hb) rfl one23) ?_
    refine WL.gval rfl rfl (fun hb => x_len (gv hb) Try.underlying23) ?_
    refine WL.gval rfl rfl (fun hb => x_leq (gv hb) rfl) ?_
    refine WL.val (x_pick rfl (.bool (((decide (0 ≤ p0.Next)) && (decide (p0.Next ≤ 2147483647))) && (decide ((p0.Queue.length : Int) ≤ 64)))) pick_and) ?_
    refine WL.val (x_assign (.bool (((decide (0 ≤ p0.Next)) && (decide (p0.Next ≤ 2147483647))) && (decide ((p0.Queue.length : Int) ≤ 64)))) rfl) ?_
    refine WL.nil ?_
    refine W.ret ?_
    obtain rfl := Option.some.inj hm0
    exact ⟨H21, rfl, hO.done⟩

theorem link_Push_ok {w0 : World} {H0 : IHeap} (hS : Sub H0 w0) {p0 : LinkLink} {p1 : Str}  {A1_ : Option Addr} {c1_ : Nat} (h1_ : RS eLinkFrame H0 A1_ c1_ p0.Queue) {res : LinkLink × Int × Int} (hm0 : link_Push p0 p1 = some res) :
    Ok Try.prog 14 [(.agg ([(.int .i64 p0.Next), (.slice A1_ p0.Queue.length c1_)] : List Value).toArray), (vs p1)].toArray w0 H0 (fun H' v => ∃ (A1 : Option Addr) (c1 : Nat), v = (.tuple ([(.agg ([(.int .i64 res.1.Next), (.slice A1 res.1.Queue.length c1)] : List Value).toArray), (.int .i64 res.2.1), (.int .i64 res.2.2)] : List Value).toArray) ∧ RS eLinkFrame H' A1 c1 res.1.Queue) := by
  unfold link_Push at hm0
  refine OkO.ok (okO_of_W Try.func14 rfl Try.ntmps14 (rs := [.cell 4 25, .tmp 5, .tmp 6]) rfl rfl ?_)
  have hO := St.start hS
  refine W.seq ?_
  refine W.region ?_
  refine o_box 0 [(.int .i64 p0.Next), (.slice A1_ p0.Queue.length c1_)] hO rfl ?_
  intro g1 w2 hO
  refine o_alloc 1 _ [(.int .i64 0), (.slice none 0 0)] zer25 hO rfl ?_
  intro g3 w4 hO
  refine WL.val (x_assign (.int .i64 0) rfl) ?_
  refine WL.val (x_assign (.int .i64 0) rfl) ?_
  refine WL.nil ?_
  refine W.seq ?_
  refine W.block ?_
  refine W.seq ?_
  refine W.region ?_
  refine WL.val (x_lds 0 [(.int .i64 p0.Next), (.slice A1_ p0.Queue.length c1_)] hO rfl rfl agg25 rfl rfl) ?_
  obtain ⟨t5, ht6, hm0⟩ := bindSome hm0
  refine o_call hO go20 (link_Right_ok hO.sub h1_ ht6) rfl ?_
  rintro _ H7 w8 le9 rfl hO
  refine WL.val (x_not rfl) ?_
  refine WL.val (x_move (.bool (!t5)) rfl) ?_
  refine WL.gval rfl rfl (fun hb => x_fa rfl fo25_0) ?_
  refine WL.gval rfl rfl (fun hb => x_ld 0 (.int .i64 p0.Next) hO rfl (gv hb) rfl one3) ?_
  refine WL.gval rfl rfl (fun hb => x_eql (gv hb) rfl) ?_
  refine WL.val (x_pick rfl (.bool ((!t5) || (p0.Next == 2147483647))) pick_or) ?_
  refine WL.val (x_assign (.bool ((!t5) || (p0.Next == 2147483647))) rfl) ?_
  refine WL.nil ?_
  refine W.test rfl hm0 ?_ ?_
  · intro hb10 hm0
    refine W.seq ?_
    refine W.region ?_
    refine WL.val (x_lds 0 [(.int .i64 p0.Next), (.slice A1_ p0.Queue.length c1_)] hO rfl rfl agg25 rfl rfl) ?_
    refine o_sts 1 [(.int .i64 p0.Next), (.slice A1_ p0.Queue.length c1_)] hO rfl rfl rfl siz25 rfl (Nat.le_of_ble_eq_true rfl) (by simp [Value.oneCell', vs]) ?_
    intro w11 hO
    refine WL.val (x_assign (.int .i64 0) rfl) ?_
    refine WL.val (x_assign (.int .i64 1) rfl) ?_
    refine WL.nil ?_
    refine W.ret ?_
    obtain rfl := Option.some.inj hm0
    exact ⟨[(.agg ([(.int .i64 p0.Next), (.slice A1_ p0.Queue.length c1_)] : List Value).toArray), (.int .i64 0), (.int .i64 1)], ⟨⟨_, rfl, hO.ldBlk 1 rfl agg25 rfl rfl⟩, rfl, rfl, trivial⟩, H7, _, ⟨A1_, c1_, rfl, (h1_.up le9)⟩, hO⟩
  · intro hb10 hm0
    refine W.seq ?_
    refine W.region ?_
    refine WL.val (x_fa rfl fo25_1) ?_
    refine WL.val (x_ld 0 (.slice A1_ p0.Queue.length c1_) hO rfl rfl rfl one23) ?_
    refine WL.val (x_len rfl Try.underlying23) ?_
    refine WL.val (x_eql rfl rfl) ?_
    refine WL.val (x_assign (.bool ((p0.Queue.length : Int) == 64)) rfl) ?_
    refine WL.nil ?_
    refine W.test rfl hm0 ?_ ?_
    · intro hb12 hm0
      refine W.seq ?_
      refine W.region ?_
      refine WL.val (x_lds 0 [(.int .i64 p0.Next), (.slice A1_ p0.Queue.length c1_)] hO rfl rfl agg25 rfl rfl) ?_
      refine o_sts 1 [(.int .i64 p0.Next), (.slice A1_ p0.Queue.length c1_)] hO rfl rfl rfl siz25 rfl (Nat.le_of_ble_eq_true rfl) (by simp [Value.oneCell', vs]) ?_
      intro w13 hO
      refine WL.val (x_assign (.int .i64 0) rfl) ?_
      refine WL.val (x_assign (.int .i64 8) rfl) ?_
      refine WL.nil ?_
      refine W.ret ?_
      obtain rfl := Option.some.inj hm0
      exact ⟨[(.agg ([(.int .i64 p0.Next), (.slice A1_ p0.Queue.length c1_)] : List Value).toArray), (.int .i64 0), (.int .i64 8)], ⟨⟨_, rfl, hO.ldBlk 1 rfl agg25 rfl rfl⟩, rfl, rfl, trivial⟩, H7, _, ⟨A1_, c1_, rfl, (h1_.up le9)⟩, hO⟩
    · intro hb12 hm0
      refine W.skip ?_
      refine W.seq ?_
      refine W.region ?_
      refine WL.val (x_fa rfl fo25_0) ?_
      refine WL.val (x_ld 0 (.int .i64 p0.Next) hO rfl rfl rfl one3) ?_
      refine WL.val (x_assign (.int .i64 p0.Next) rfl) ?_
      refine WL.nil ?_
      refine W.seq ?_
      refine W.region ?_
      refine WL.val (x_move (.int .i64 p0.Next) rfl) ?_
      refine WL.val (x_add rfl rfl) ?_
      refine WL.val (x_fa rfl fo25_1) ?_
      refine WL.val (x_ld 0 (.slice A1_ p0.Queue.length c1_) hO rfl rfl rfl one23) ?_
      obtain ⟨t14, ht15, hm0⟩ := bindSome hm0
      refine o_callO hO go21 (slices_Clone_link_Frame_ok hO.sub (h1_.up le9) ht15) rfl ?_
      rintro _ H16 O24 w17 le18 ⟨A19, c20, cs21, rfl, hr22, hk23⟩ hO'
      have hO := hO.callRow hO' 2 0 _ hk23; clear hO'
      refine WL.val (x_move (.int .i64 p0.Next) rfl) ?_
      refine WL.val (x_move (vs p1) rfl) ?_
      refine WL.val (x_build [(0, (.int .i64 p0.Next)), (1, (vs p1))] [(.int .i64 p0.Next), (vs p1)] ⟨rfl, rfl, rfl, rfl, trivial⟩ (by kernel_rfl)) ?_
      refine o_litT (en := eLinkFrame) 3 [(.agg ([(.int .i64 p0.Next), (vs p1)] : List Value).toArray)] ([(⟨p0.Next, p1⟩ : LinkFrame)] : List LinkFrame) hO sli23 ⟨rfl, trivial⟩ rfl rfl rfl ?_
      intro g25 cs26 w27 hr28 hO
      refine o_appT (en := eLinkFrame) (xs := t14) (ys := ([(⟨p0.Next, p1⟩ : LinkFrame)] : List LinkFrame)) 2 hO rfl hr22 rfl rfl (Src.row (k := 3) hO rfl) hr28 sli23 rfl rfl Try.underlying23 hm0 ?_
      intro A29 c30 cs31 w32 hr33 hO hm0
      refine WL.val (x_build [(0, (.int .i64 (i64w (p0.Next + 1)))), (1, (.slice A29 (t14 ++ ([(⟨p0.Next, p1⟩ : LinkFrame)] : List LinkFrame)).length c30))] [(.int .i64 (i64w (p0.Next + 1))), (.slice A29 (t14 ++ ([(⟨p0.Next, p1⟩ : LinkFrame)] : List LinkFrame)).length c30)] ⟨rfl, rfl, rfl, rfl, trivial⟩ (by kernel_rfl)) ?_
      refine WL.val (x_move (.int .i64 p0.Next) rfl) ?_
      refine o_sts 1 [(.int .i64 (i64w (p0.Next + 1))), (.slice A29 (t14 ++ ([(⟨p0.Next, p1⟩ : LinkFrame)] : List LinkFrame)).length c30)] hO rfl rfl rfl siz25 rfl (Nat.le_of_ble_eq_true rfl) (by simp [Value.oneCell', vs]) ?_
      intro w34 hO
      refine WL.val (x_assign (.int .i64 p0.Next) rfl) ?_
      refine WL.val (x_assign (.int .i64 0) rfl) ?_
      refine WL.nil ?_
      refine W.ret ?_
      obtain ⟨H35, le36, h37, hO⟩ := hO.freezeRow (en := eLinkFrame) 2 rfl rfl rfl hr33
      obtain rfl := Option.some.inj hm0
      exact ⟨[(.agg ([(.int .i64 (i64w (p0.Next + 1))), (.slice A29 (t14 ++ ([(⟨p0.Next, p1⟩ : LinkFrame)] : List LinkFrame)).length c30)] : List Value).toArray), (.int .i64 p0.Next), (.int .i64 0)], ⟨⟨_, rfl, hO.ldBlk 1 rfl agg25 rfl rfl⟩, rfl, rfl, trivial⟩, H35, _, ⟨A29, c30, rfl, h37⟩, hO⟩

theorem port_Send_ok {w0 : World} {H0 : IHeap} (hS : Sub H0 w0) {p0 : PortPort} {p1 : Str}  {A1_ : Option Addr} {c1_ : Nat} {A2_ : Option Addr} {c2_ : Nat} (h1_ : RS eLinkFrame H0 A1_ c1_ p0.Link.Queue) (h2_ : RS (eInt .i64) H0 A2_ c2_ p0.Window.Seen) {res : PortPort × Str × Int} (hm0 : port_Send p0 p1 = some res) :
    Ok Try.prog 9 [(.agg ([(.int .i64 p0.Link.Next), (.slice A1_ p0.Link.Queue.length c1_), (.int .i64 p0.Window.Low), (.slice A2_ p0.Window.Seen.length c2_)] : List Value).toArray), (vs p1)].toArray w0 H0 (fun H' v => ∃ (A1 : Option Addr) (c1 : Nat) (A2 : Option Addr) (c2 : Nat), v = (.tuple ([(.agg ([(.int .i64 res.1.Link.Next), (.slice A1 res.1.Link.Queue.length c1), (.int .i64 res.1.Window.Low), (.slice A2 res.1.Window.Seen.length c2)] : List Value).toArray), (vs res.2.1), (.int .i64 res.2.2)] : List Value).toArray) ∧ RS eLinkFrame H' A1 c1 res.1.Link.Queue ∧ RS (eInt .i64) H' A2 c2 res.1.Window.Seen) := by
  unfold port_Send at hm0
  refine OkO.ok (okO_of_W Try.func9 rfl Try.ntmps9 (rs := [.cell 4 30, .tmp 5, .tmp 6]) rfl rfl ?_)
  have hO := St.start hS
  refine W.seq ?_
  refine W.region ?_
  refine o_box 0 [(.int .i64 p0.Link.Next), (.slice A1_ p0.Link.Queue.length c1_), (.int .i64 p0.Window.Low), (.slice A2_ p0.Window.Seen.length c2_)] hO rfl ?_
  intro g1 w2 hO
  refine o_alloc 1 _ [(.int .i64 0), (.slice none 0 0), (.int .i64 0), (.slice none 0 0)] zer30 hO rfl ?_
  intro g3 w4 hO
  refine WL.val (x_assign (vs ([] : Str)) rfl) ?_
  refine WL.val (x_assign (.int .i64 0) rfl) ?_
  refine WL.nil ?_
  refine W.seq ?_
  refine W.region ?_
  refine WL.val (x_fa rfl fo30_0) ?_
  refine WL.val (x_lds 0 [(.int .i64 p0.Link.Next), (.slice A1_ p0.Link.Queue.length c1_)] hO rfl rfl agg25 rfl rfl) ?_
  refine WL.val (x_move (vs p1) rfl) ?_
  obtain ⟨t5, ht6, hm0⟩ := bindSome hm0
  refine o_call hO go14 (link_Push_ok hO.sub h1_ ht6) rfl ?_
  rintro _ H7 w8 le9 ⟨A10, c11, rfl, h12⟩ hO
  refine WL.val (x_move (.tuple ([(.agg ([(.int .i64 t5.1.Next), (.slice A10 t5.1.Queue.length c11)] : List Value).toArray), (.int .i64 t5.2.1), (.int .i64 t5.2.2)] : List Value).toArray) rfl) ?_
  refine WL.val (x_extract (.agg ([(.int .i64 t5.1.Next), (.slice A10 t5.1.Queue.length c11)] : List Value).toArray) rfl rfl) ?_
  refine WL.val (x_extract (.int .i64 t5.2.1) rfl rfl) ?_
  refine WL.val (x_extract (.int .i64 t5.2.2) rfl rfl) ?_
  refine o_alloc 2 _ [(.int .i64 0), (.slice none 0 0)] zer25 hO rfl ?_
  intro g13 w14 hO
  refine o_sts 2 [(.int .i64 t5.1.Next), (.slice A10 t5.1.Queue.length c11)] hO rfl rfl rfl siz25 rfl (Nat.le_of_ble_eq_true rfl) (by simp [Value.oneCell', vs]) ?_
  intro w15 hO
  refine WL.val (x_assign (.int .i64 t5.2.1) rfl) ?_
  refine WL.val (x_assign (.int .i64 t5.2.2) rfl) ?_
  refine WL.nil ?_
  refine W.seq ?_
  refine W.seq ?_
  refine W.region ?_
  refine WL.val (x_move (.int .i64 t5.2.2) rfl) ?_
  refine WL.val (x_eql rfl rfl) ?_
  refine WL.nil ?_
  refine W.test rfl hm0 ?_ ?_
  · intro hb16 hm0
    refine W.seq ?_
    refine W.region ?_
    refine WL.val (x_lds 0 [(.int .i64 p0.Link.Next), (.slice A1_ p0.Link.Queue.length c1_), (.int .i64 p0.Window.Low), (.slice A2_ p0.Window.Seen.length c2_)] hO rfl rfl agg30 rfl rfl) ?_
    refine WL.val (x_move (.int .i64 t5.2.2) rfl) ?_
    refine o_sts 1 [(.int .i64 p0.Link.Next), (.slice A1_ p0.Link.Queue.length c1_), (.int .i64 p0.Window.Low), (.slice A2_ p0.Window.Seen.length c2_)] hO rfl rfl rfl siz30 rfl (Nat.le_of_ble_eq_true rfl) (by simp [Value.oneCell', vs]) ?_
    intro w17 hO
    refine WL.val (x_assign (vs ([] : Str)) rfl) ?_
    refine WL.val (x_assign (.int .i64 t5.2.2) rfl) ?_
    refine WL.nil ?_
    refine W.ret ?_
    obtain rfl := Option.some.inj hm0
    exact ⟨[(.agg ([(.int .i64 p0.Link.Next), (.slice A1_ p0.Link.Queue.length c1_), (.int .i64 p0.Window.Low), (.slice A2_ p0.Window.Seen.length c2_)] : List Value).toArray), (vs ([] : Str)), (.int .i64 t5.2.2)], ⟨⟨_, rfl, hO.ldBlk 1 rfl agg30 rfl rfl⟩, rfl, rfl, trivial⟩, H7, _, ⟨A1_, c1_, A2_, c2_, rfl, (h1_.up le9), (h2_.up le9)⟩, hO⟩
  · intro hb16 hm0
    refine W.skip ?_
    refine W.seq ?_
    refine W.seq ?_
    refine W.region ?_
    refine WL.val (x_fa rfl fo30_0) ?_
    refine WL.val (x_fa rfl fo25_1) ?_
    refine WL.val (x_ld 0 (.slice A1_ p0.Link.Queue.length c1_) hO rfl rfl rfl one23) ?_
    refine WL.val (x_assign (.slice A1_ p0.Link.Queue.length c1_) rfl) ?_
    refine WL.nil ?_
    refine W.seq ?_
    refine W.draw (SD w0 H0 [] H7 [(0, .blk g1 [(.int .i64 p0.Link.Next), (.slice A1_ p0.Link.Queue.length c1_), (.int .i64 p0.Window.Low), (.slice A2_ p0.Window.Seen.length c2_)] 30), (1, .blk g3 [(.int .i64 0), (.slice none 0 0), (.int .i64 0), (.slice none 0 0)] 30), (2, .blk g13 [(.int .i64 t5.1.Next), (.slice A10 t5.1.Queue.length c11)] 25)]) (fun i => ([] : List Nat).contains i) mixed 14 rfl _ rfl ?_
    intro w18 hh1 hh2 hh3 hh4; have hO := hO.same hh1 hh2 hh3 hh4; clear hh1 hh2 hh3 hh4
    have hS : SD w0 H0 [] H7 [(0, .blk g1 [(.int .i64 p0.Link.Next), (.slice A1_ p0.Link.Queue.length c1_), (.int .i64 p0.Window.Low), (.slice A2_ p0.Window.Seen.length c2_)] 30), (1, .blk g3 [(.int .i64 0), (.slice none 0 0), (.int .i64 0), (.slice none 0 0)] 30), (2, .blk g13 [(.int .i64 t5.1.Next), (.slice A10 t5.1.Queue.length c11)] 25)] w18 := ⟨_, _, Le.refl _, hO, ⟨rfl, rfl, rfl, trivial⟩⟩
    refine WA.take (i := 0) rfl (by kernel_rfl) (fun w hS => x_move (.slice A1_ p0.Link.Queue.length c1_) rfl) hS ?_
    refine WA.take (i := 1) rfl (by kernel_rfl) (fun w hS => x_len rfl Try.underlying23) hS ?_
    refine WA.take (i := 2) rfl (by kernel_rfl) (fun w hS => x_gtr rfl rfl) hS ?_
    refine WA.take (i := 3) rfl (by kernel_rfl) (fun w hS => x_move (.bool (decide (0 < (p0.Link.Queue.length : Int)))) rfl) hS ?_
    refine WA.gtake (i := 4) rfl rfl rfl (by kernel_rfl) (fun hb w hS => x_fa rfl fo30_0) hS ?_
    refine WA.gtake (i := 5) rfl rfl rfl (by kernel_rfl) (fun hb w hS => x_fa (gv hb) fo25_0) hS ?_
    refine WA.gtake (i := 6) rfl rfl rfl (by kernel_rfl) (fun hb w hS => x_ldD 0 (.int .i64 p0.Link.Next) hS rfl (gv hb) rfl one3) hS ?_
    refine WA.gtake (i := 7) rfl rfl rfl (by kernel_rfl) (fun hb w hS => x_move (.slice A1_ p0.Link.Queue.length c1_) rfl) hS ?_
    rcases btest hm0 with ⟨hb19, hm0⟩ | ⟨hb19, hm0⟩
    · obtain ⟨hin23, hm0⟩ := chk hm0
      obtain ⟨a20, h21, hA22⟩ := RS.at_ (h1_.up le9) hin23
      refine WA.takeY (i := 8) rfl rfl (kb rfl hb19) (by kernel_rfl) (fun w hS => x_ia (sA (by exact gkT hb19) hA22) rfl sle23 hin23) hS ?_
      refine WA.takeY (i := 9) rfl rfl (kb rfl hb19) (by kernel_rfl) (fun w hS => x_faAt rfl h21 fo50_0) hS ?_
      refine WA.takeY (i := 10) rfl rfl (kb rfl hb19) (by kernel_rfl) (fun w hS => x_ldc rfl ((h21.part pLinkFrame_Seq).int _ hS.sub) one3) hS ?_
      refine WA.takeY (i := 11) rfl rfl (kb rfl hb19) (by kernel_rfl) (fun w hS => x_sub (by exact gkT hb19) rfl) hS ?_
      refine WA.takeY (i := 12) rfl rfl (kb rfl hb19) (by kernel_rfl) (fun w hS => x_geq rfl rfl) hS ?_
      refine WA.take (i := 13) rfl (by kernel_rfl) (fun w hS => x_pick_t (kb rfl hb19) (.bool (decide (32 ≤ (i64w (p0.Link.Next - ((at0 p0.Link.Queue 0).Seq)))))) rfl) hS ?_
      refine WA.done (by kernel_rfl) ?_
      refine W.test rfl hm0 ?_ ?_
      · intro hb24 hm0
        refine W.seq ?_
        refine W.region ?_
        refine WL.val (x_lds 0 [(.int .i64 p0.Link.Next), (.slice A1_ p0.Link.Queue.length c1_), (.int .i64 p0.Window.Low), (.slice A2_ p0.Window.Seen.length c2_)] hO rfl rfl agg30 rfl rfl) ?_
        refine o_sts 1 [(.int .i64 p0.Link.Next), (.slice A1_ p0.Link.Queue.length c1_), (.int .i64 p0.Window.Low), (.slice A2_ p0.Window.Seen.length c2_)] hO rfl rfl rfl siz30 rfl (Nat.le_of_ble_eq_true rfl) (by simp [Value.oneCell', vs]) ?_
        intro w25 hO
        refine WL.val (x_assign (vs ([] : Str)) rfl) ?_
        refine WL.val (x_assign (.int .i64 8) rfl) ?_
        refine WL.nil ?_
        refine W.ret ?_
        obtain rfl := Option.some.inj hm0
        exact ⟨[(.agg ([(.int .i64 p0.Link.Next), (.slice A1_ p0.Link.Queue.length c1_), (.int .i64 p0.Window.Low), (.slice A2_ p0.Window.Seen.length c2_)] : List Value).toArray), (vs ([] : Str)), (.int .i64 8)], ⟨⟨_, rfl, hO.ldBlk 1 rfl agg30 rfl rfl⟩, rfl, rfl, trivial⟩, H7, _, ⟨A1_, c1_, A2_, c2_, rfl, (h1_.up le9), (h2_.up le9)⟩, hO⟩
      · intro hb24 hm0
        refine W.skip ?_
        refine W.seq ?_
        refine W.seq ?_
        refine W.region ?_
        refine WL.val (x_move (.int .i64 t5.2.2) rfl) ?_
        refine WL.val (x_neq rfl rfl) ?_
        refine WL.nil ?_
        refine W.test rfl hm0 ?_ ?_
        · intro hb26 hm0
          refine W.seq ?_
          refine W.region ?_
          refine WL.val (x_lds 0 [(.int .i64 p0.Link.Next), (.slice A1_ p0.Link.Queue.length c1_), (.int .i64 p0.Window.Low), (.slice A2_ p0.Window.Seen.length c2_)] hO rfl rfl agg30 rfl rfl) ?_
          refine WL.val (x_move (.int .i64 t5.2.2) rfl) ?_
          refine o_sts 1 [(.int .i64 p0.Link.Next), (.slice A1_ p0.Link.Queue.length c1_), (.int .i64 p0.Window.Low), (.slice A2_ p0.Window.Seen.length c2_)] hO rfl rfl rfl siz30 rfl (Nat.le_of_ble_eq_true rfl) (by simp [Value.oneCell', vs]) ?_
          intro w27 hO
          refine WL.val (x_assign (vs ([] : Str)) rfl) ?_
          refine WL.val (x_assign (.int .i64 t5.2.2) rfl) ?_
          refine WL.nil ?_
          refine W.ret ?_
          obtain rfl := Option.some.inj hm0
          exact ⟨[(.agg ([(.int .i64 p0.Link.Next), (.slice A1_ p0.Link.Queue.length c1_), (.int .i64 p0.Window.Low), (.slice A2_ p0.Window.Seen.length c2_)] : List Value).toArray), (vs ([] : Str)), (.int .i64 t5.2.2)], ⟨⟨_, rfl, hO.ldBlk 1 rfl agg30 rfl rfl⟩, rfl, rfl, trivial⟩, H7, _, ⟨A1_, c1_, A2_, c2_, rfl, (h1_.up le9), (h2_.up le9)⟩, hO⟩
        · intro hb26 hm0
          refine W.skip ?_
          refine W.seq ?_
          refine W.region ?_
          refine WL.val (x_lds 2 [(.int .i64 t5.1.Next), (.slice A10 t5.1.Queue.length c11)] hO rfl rfl agg25 rfl rfl) ?_
          refine WL.val (x_fa rfl fo30_0) ?_
          refine o_sts 0 [(.int .i64 t5.1.Next), (.slice A10 t5.1.Queue.length c11)] hO rfl rfl rfl siz25 rfl (Nat.le_of_ble_eq_true rfl) (by simp [Value.oneCell', vs]) ?_
          intro w28 hO
          refine WL.nil ?_
          refine W.seq ?_
          refine W.region ?_
          refine WL.val (x_move (.int .i64 t5.2.1) rfl) ?_
          refine WL.val (x_move (vs p1) rfl) ?_
          obtain ⟨t29, ht30, hm0⟩ := bindSome hm0
          refine o_call hO go13 (port_Pack_ok hO.sub  ht30) rfl ?_
          rintro _ H31 w32 le33 rfl hO
          refine WL.val (x_move (.tuple ([(vs t29.1), (.int .i64 t29.2)] : List Value).toArray) rfl) ?_
          refine WL.val (x_extract (vs t29.1) rfl rfl) ?_
          refine WL.val (x_extract (.int .i64 t29.2) rfl rfl) ?_
          refine WL.val (x_assign (vs t29.1) rfl) ?_
          refine WL.val (x_assign (.int .i64 t29.2) rfl) ?_
          refine WL.nil ?_
          refine W.seq ?_
          refine W.region ?_
          refine WL.val (x_lds 0 [(.int .i64 t5.1.Next), (.slice A10 t5.1.Queue.length c11), (.int .i64 p0.Window.Low), (.slice A2_ p0.Window.Seen.length c2_)] hO rfl rfl agg30 rfl rfl) ?_
          refine WL.val (x_move (vs t29.1) rfl) ?_
          refine o_sts 1 [(.int .i64 t5.1.Next), (.slice A10 t5.1.Queue.length c11), (.int .i64 p0.Window.Low), (.slice A2_ p0.Window.Seen.length c2_)] hO rfl rfl rfl siz30 rfl (Nat.le_of_ble_eq_true rfl) (by simp [Value.oneCell', vs]) ?_
          intro w34 hO
          refine WL.val (x_assign (vs t29.1) rfl) ?_
          refine WL.val (x_assign (.int .i64 0) rfl) ?_
          refine WL.nil ?_
          refine W.ret ?_
          obtain rfl := Option.some.inj hm0
          exact ⟨[(.agg ([(.int .i64 t5.1.Next), (.slice A10 t5.1.Queue.length c11), (.int .i64 p0.Window.Low), (.slice A2_ p0.Window.Seen.length c2_)] : List Value).toArray), (vs t29.1), (.int .i64 0)], ⟨⟨_, rfl, hO.ldBlk 1 rfl agg30 rfl rfl⟩, rfl, rfl, trivial⟩, H31, _, ⟨A10, c11, A2_, c2_, rfl, (h12.up le33), (h2_.up (le9.trans le33))⟩, hO⟩
    · refine WA.takeN (i := 8) rfl rfl (kb rfl hb19) rfl (by kernel_rfl) hS ?_
      refine WA.takeN (i := 9) rfl rfl (kb rfl hb19) rfl (by kernel_rfl) hS ?_
      refine WA.takeN (i := 10) rfl rfl (kb rfl hb19) rfl (by kernel_rfl) hS ?_
      refine WA.takeN (i := 11) rfl rfl (kb rfl hb19) rfl (by kernel_rfl) hS ?_
      refine WA.takeN (i := 12) rfl rfl (kb rfl hb19) rfl (by kernel_rfl) hS ?_
      refine WA.take (i := 13) rfl (by kernel_rfl) (fun w hS => x_pick_f (kb rfl hb19) (.bool false) rfl) hS ?_
      refine WA.done (by kernel_rfl) ?_
      refine W.cond_f rfl ?_
      refine W.skip ?_
      refine W.seq ?_
      refine W.seq ?_
      refine W.region ?_
      refine WL.val (x_move (.int .i64 t5.2.2) rfl) ?_
      refine WL.val (x_neq rfl rfl) ?_
      refine WL.nil ?_
      refine W.test rfl hm0 ?_ ?_
      · intro hb35 hm0
        refine W.seq ?_
        refine W.region ?_
        refine WL.val (x_lds 0 [(.int .i64 p0.Link.Next), (.slice A1_ p0.Link.Queue.length c1_), (.int .i64 p0.Window.Low), (.slice A2_ p0.Window.Seen.length c2_)] hO rfl rfl agg30 rfl rfl) ?_
        refine WL.val (x_move (.int .i64 t5.2.2) rfl) ?_
        refine o_sts 1 [(.int .i64 p0.Link.Next), (.slice A1_ p0.Link.Queue.length c1_), (.int .i64 p0.Window.Low), (.slice A2_ p0.Window.Seen.length c2_)] hO rfl rfl rfl siz30 rfl (Nat.le_of_ble_eq_true rfl) (by simp [Value.oneCell', vs]) ?_
        intro w36 hO
        refine WL.val (x_assign (vs ([] : Str)) rfl) ?_
        refine WL.val (x_assign (.int .i64 t5.2.2) rfl) ?_
        refine WL.nil ?_
        refine W.ret ?_
        obtain rfl := Option.some.inj hm0
        exact ⟨[(.agg ([(.int .i64 p0.Link.Next), (.slice A1_ p0.Link.Queue.length c1_), (.int .i64 p0.Window.Low), (.slice A2_ p0.Window.Seen.length c2_)] : List Value).toArray), (vs ([] : Str)), (.int .i64 t5.2.2)], ⟨⟨_, rfl, hO.ldBlk 1 rfl agg30 rfl rfl⟩, rfl, rfl, trivial⟩, H7, _, ⟨A1_, c1_, A2_, c2_, rfl, (h1_.up le9), (h2_.up le9)⟩, hO⟩
      · intro hb35 hm0
        refine W.skip ?_
        refine W.seq ?_
        refine W.region ?_
        refine WL.val (x_lds 2 [(.int .i64 t5.1.Next), (.slice A10 t5.1.Queue.length c11)] hO rfl rfl agg25 rfl rfl) ?_
        refine WL.val (x_fa rfl fo30_0) ?_
        refine o_sts 0 [(.int .i64 t5.1.Next), (.slice A10 t5.1.Queue.length c11)] hO rfl rfl rfl siz25 rfl (Nat.le_of_ble_eq_true rfl) (by simp [Value.oneCell', vs]) ?_
        intro w37 hO
        refine WL.nil ?_
        refine W.seq ?_
        refine W.region ?_
        refine WL.val (x_move (.int .i64 t5.2.1) rfl) ?_
        refine WL.val (x_move (vs p1) rfl) ?_
        obtain ⟨t38, ht39, hm0⟩ := bindSome hm0
        refine o_call hO go13 (port_Pack_ok hO.sub  ht39) rfl ?_
        rintro _ H40 w41 le42 rfl hO
        refine WL.val (x_move (.tuple ([(vs t38.1), (.int .i64 t38.2)] : List Value).toArray) rfl) ?_
        refine WL.val (x_extract (vs t38.1) rfl rfl) ?_
        refine WL.val (x_extract (.int .i64 t38.2) rfl rfl) ?_
        refine WL.val (x_assign (vs t38.1) rfl) ?_
        refine WL.val (x_assign (.int .i64 t38.2) rfl) ?_
        refine WL.nil ?_
        refine W.seq ?_
        refine W.region ?_
        refine WL.val (x_lds 0 [(.int .i64 t5.1.Next), (.slice A10 t5.1.Queue.length c11), (.int .i64 p0.Window.Low), (.slice A2_ p0.Window.Seen.length c2_)] hO rfl rfl agg30 rfl rfl) ?_
        refine WL.val (x_move (vs t38.1) rfl) ?_
        refine o_sts 1 [(.int .i64 t5.1.Next), (.slice A10 t5.1.Queue.length c11), (.int .i64 p0.Window.Low), (.slice A2_ p0.Window.Seen.length c2_)] hO rfl rfl rfl siz30 rfl (Nat.le_of_ble_eq_true rfl) (by simp [Value.oneCell', vs]) ?_
        intro w43 hO
        refine WL.val (x_assign (vs t38.1) rfl) ?_
        refine WL.val (x_assign (.int .i64 0) rfl) ?_
        refine WL.nil ?_
        refine W.ret ?_
        obtain rfl := Option.some.inj hm0
        exact ⟨[(.agg ([(.int .i64 t5.1.Next), (.slice A10 t5.1.Queue.length c11), (.int .i64 p0.Window.Low), (.slice A2_ p0.Window.Seen.length c2_)] : List Value).toArray), (vs t38.1), (.int .i64 0)], ⟨⟨_, rfl, hO.ldBlk 1 rfl agg30 rfl rfl⟩, rfl, rfl, trivial⟩, H40, _, ⟨A10, c11, A2_, c2_, rfl, (h12.up le42), (h2_.up (le9.trans le42))⟩, hO⟩

theorem switchboardlaw23_text_ok {w0 : World} {H0 : IHeap} (hS : Sub H0 w0) {p0 : Int}    {res : Str} (hm0 : switchboardlaw23_text p0 = some res) :
    Ok Try.prog 10 [(.int .i64 p0)].toArray w0 H0 (fun H' v => v = (vs res)) := by
  unfold switchboardlaw23_text at hm0
  refine ok_of_W Try.func10 rfl Try.ntmps10 (ts := [2]) rfl rfl rfl ?_
  have hO := St.start hS
  refine W.seq ?_
  refine W.region ?_
  refine WL.val (x_assign (vs ([] : Str)) rfl) ?_
  refine WL.nil ?_
  refine W.seq ?_
  refine W.region ?_
  refine WL.val (x_move (.int .i64 p0) rfl) ?_
  refine WL.val (x_conv Try.underlying3 Try.underlying5 rfl) ?_
  refine o_litT (en := (eInt .u8)) 0 [(.int .u8 116), (.int .u8 (u8w p0))] ([116, u8w p0] : List Int) hO sli55 ⟨rfl, rfl, trivial⟩ rfl rfl rfl ?_
  intro g1 cs2 w3 hr4 hO
  refine WL.val (x_str Try.underlying55 Try.underlying5 Try.underlying9 rfl (Src.row (k := 0) hO rfl) hr4) ?_
  refine WL.val (x_assign (vs (bstr ([116, u8w p0] : List Int))) rfl) ?_
  refine WL.nil ?_
  refine W.ret ?_
  obtain rfl := Option.some.inj hm0
  exact ⟨H0, rfl, hO.done⟩

theorem switchboardlaw23_act_ok {w0 : World} {H0 : IHeap} (hS : Sub H0 w0) {p0 : Switchboardlaw23Net} {p1 : Int} {p2 : Int}  {cs1_ : List Value} (h1_ : Enc.rep eSwitchboardlaw23Net H0 cs1_ p0) {res : Switchboardlaw23Net} (hm0 : switchboardlaw23_act p0 p1 p2 = some res) :
    Ok Try.prog 4 [(.agg cs1_.toArray), (.int .i64 p1), (.int .i64 p2)].toArray w0 H0 (fun H' v => ∃ (cs1 : List Value), v = (.agg cs1.toArray) ∧ Enc.rep eSwitchboardlaw23Net H' cs1 res) := by
  unfold switchboardlaw23_act at hm0
  refine OkO.ok (okO_of_W Try.func4 rfl Try.ntmps4 (rs := [.cell 6 34]) rfl rfl ?_)
  have hO := St.start hS
  refine W.seq ?_
  refine W.region ?_
  refine o_box 0 cs1_ hO rfl ?_
  intro g1 w2 hO
  refine o_alloc 1 _ zc34 zer34 hO rfl ?_
  intro g3 w4 hO
  refine WL.nil ?_
  refine W.seq ?_
  refine W.seq ?_
  refine W.region ?_
  refine WL.val (x_move (.int .i64 p1) rfl) ?_
  refine WL.nil ?_
  refine W.block ?_
  refine W.seq ?_
  refine W.region ?_
  refine WL.val (x_eql rfl rfl) ?_
  refine WL.val (x_assign (.bool (p1 == 0)) rfl) ?_
  refine WL.nil ?_
  refine W.test rfl hm0 ?_ ?_
  · intro hb5 hm0
    refine W.seq ?_
    refine W.draw (SD w0 H0 [] H0 [(0, .blk g1 cs1_ 34), (1, .blk g3 zc34 34)]) (fun i => ([] : List Nat).contains i) mixed 14 rfl _ rfl ?_
    intro w6 hh1 hh2 hh3 hh4; have hO := hO.same hh1 hh2 hh3 hh4; clear hh1 hh2 hh3 hh4
    have hS : SD w0 H0 [] H0 [(0, .blk g1 cs1_ 34), (1, .blk g3 zc34 34)] w6 := ⟨_, _, Le.refl _, hO, ⟨rfl, rfl, trivial⟩⟩
    refine WA.take (i := 0) rfl (by kernel_rfl) (fun w hS => x_fa rfl fo34_0) hS ?_
    obtain ⟨cs7, hr8, hc9⟩ := lSwitchboardlaw23Net_a.part _ _ _ h1_
    obtain ⟨A10, c11, A13, c14, rfl, h12, h15⟩ := hr8
    refine WA.take (i := 1) rfl (by kernel_rfl) (fun w hS => x_ldsD 0 [(.int .i64 p0.a.Link.Next), (.slice A10 p0.a.Link.Queue.length c11), (.int .i64 p0.a.Window.Low), (.slice A13 p0.a.Window.Seen.length c14)] hS rfl rfl agg30 (take_of_part hc9 rfl) rfl) hS ?_
    refine WA.take (i := 2) rfl (by kernel_rfl) (fun w hS => x_fa rfl fo34_5) hS ?_
    obtain ⟨cs16, hr17, hc18⟩ := lSwitchboardlaw23Net_sent.part _ _ _ h1_
    obtain rfl := hr17
    refine WA.take (i := 3) rfl (by kernel_rfl) (fun w hS => x_ldD 0 (.int .i64 p0.sent) hS rfl rfl (hc18 0 _ rfl) one3) hS ?_
    obtain ⟨t19, ht20, hm0⟩ := bindSome hm0
    refine WA.all [4, 10] (by kernel_rfl) (by simp) ?_
    intro i hi; simp only [List.mem_cons, List.not_mem_nil, or_false] at hi
    rcases hi with rfl | rfl
    · refine ⟨_, rfl, ?_⟩
      refine o_call hO go10 (switchboardlaw23_text_ok hO.sub  ht20) rfl ?_
      rintro _ H21 w22 le23 rfl hO
      have hS : SD w0 H0 [] H0 [(0, .blk g1 cs1_ 34), (1, .blk g3 zc34 34)] _ := ⟨_, _, le23, hO, ⟨rfl, rfl, trivial⟩⟩
      refine WL.nil ⟨fun _ => hS, ?_⟩
      obtain ⟨t24, ht25, hm0⟩ := bindSome hm0
      refine WA.all [5, 10] (by kernel_rfl) (by simp) ?_
      intro i hi; simp only [List.mem_cons, List.not_mem_nil, or_false] at hi
      rcases hi with rfl | rfl
      · refine ⟨_, rfl, ?_⟩
        refine o_call hO go9 (port_Send_ok hO.sub (h12.up le23) (h15.up le23) ht25) rfl ?_
        rintro _ H26 w27 le28 ⟨A29, c30, A32, c33, rfl, h31, h34⟩ hO
        have hS : SD w0 H0 [] H0 [(0, .blk g1 cs1_ 34), (1, .blk g3 zc34 34)] _ := ⟨_, _, (le23.trans le28), hO, ⟨rfl, rfl, trivial⟩⟩
        refine WL.nil ⟨fun _ => hS, ?_⟩
        refine WA.take (i := 6) rfl (by kernel_rfl) (fun w hS => x_move (.tuple ([(.agg ([(.int .i64 t24.1.Link.Next), (.slice A29 t24.1.Link.Queue.length c30), (.int .i64 t24.1.Window.Low), (.slice A32 t24.1.Window.Seen.length c33)] : List Value).toArray), (vs t24.2.1), (.int .i64 t24.2.2)] : List Value).toArray) rfl) hS ?_
        refine WA.take (i := 7) rfl (by kernel_rfl) (fun w hS => x_extract (.agg ([(.int .i64 t24.1.Link.Next), (.slice A29 t24.1.Link.Queue.length c30), (.int .i64 t24.1.Window.Low), (.slice A32 t24.1.Window.Seen.length c33)] : List Value).toArray) rfl rfl) hS ?_
        refine WA.take (i := 8) rfl (by kernel_rfl) (fun w hS => x_extract (vs t24.2.1) rfl rfl) hS ?_
        refine WA.take (i := 9) rfl (by kernel_rfl) (fun w hS => x_extract (.int .i64 t24.2.2) rfl rfl) hS ?_
        refine WA.only (i := 10) (by kernel_rfl) rfl ?_
        refine o_alloc 2 _ [(.int .i64 0), (.slice none 0 0), (.int .i64 0), (.slice none 0 0)] zer30 hO rfl ?_
        intro g35 w36 hO
        have hS : SD w0 H0 [] H0 [(0, .blk g1 cs1_ 34), (1, .blk g3 zc34 34)] _ := ⟨_, _, (le23.trans le28), hO, ⟨rfl, rfl, trivial⟩⟩
        refine WL.nil ⟨fun _ => hS, ?_⟩
        refine WA.only (i := 11) (by kernel_rfl) rfl ?_
        refine o_sts 2 [(.int .i64 t24.1.Link.Next), (.slice A29 t24.1.Link.Queue.length c30), (.int .i64 t24.1.Window.Low), (.slice A32 t24.1.Window.Seen.length c33)] hO rfl rfl rfl siz30 rfl (Nat.le_of_ble_eq_true rfl) (by simp [Value.oneCell', vs]) ?_
        intro w37 hO
        have hS : SD w0 H0 [] H0 [(0, .blk g1 cs1_ 34), (1, .blk g3 zc34 34)] _ := ⟨_, _, (le23.trans le28), hO, ⟨rfl, rfl, trivial⟩⟩
        refine WL.nil ⟨fun _ => hS, ?_⟩
        refine WA.take (i := 12) rfl (by kernel_rfl) (fun w hS => x_assign (vs t24.2.1) rfl) hS ?_
        refine WA.take (i := 13) rfl (by kernel_rfl) (fun w hS => x_assign (.int .i64 t24.2.2) rfl) hS ?_
        refine WA.done (by kernel_rfl) ?_
        refine W.seq ?_
        refine W.region ?_
        refine WL.val (x_move (.int .i64 t24.2.2) rfl) ?_
        refine WL.val (x_eql rfl rfl) ?_
        refine WL.val (x_move (.bool (t24.2.2 == 0)) rfl) ?_
        refine WL.gval rfl rfl (fun hb => x_fa rfl fo34_5) ?_
        obtain ⟨cs38, hr39, hc40⟩ := lSwitchboardlaw23Net_sent.part _ _ _ (Enc.mono _ (le23.trans le28) h1_)
        obtain rfl := hr39
        refine WL.gval rfl rfl (fun hb => x_ld 0 (.int .i64 p0.sent) hO rfl (gv hb) (hc40 0 _ rfl) one3) ?_
        refine WL.gval rfl rfl (fun hb => x_lss (gv hb) rfl) ?_
        refine WL.val (x_pick rfl (.bool ((t24.2.2 == 0) && (decide (p0.sent < 250)))) pick_and) ?_
        refine WL.val (x_move (.bool ((t24.2.2 == 0) && (decide (p0.sent < 250)))) rfl) ?_
        refine WL.gval rfl rfl (fun hb => x_fa rfl fo34_2) ?_
        obtain ⟨cs41, hr42, hc43⟩ := lSwitchboardlaw23Net_there.part _ _ _ (Enc.mono _ (le23.trans le28) h1_)
        obtain ⟨A44, c45, rfl, h46⟩ := hr42
        refine WL.gval rfl rfl (fun hb => x_ld 0 (.slice A44 p0.there.length c45) hO rfl (gv hb) (hc43 0 _ rfl) one31) ?_
        refine WL.gval rfl rfl (fun hb => x_len (gv hb) Try.underlying31) ?_
        refine WL.gval rfl rfl (fun hb => x_lss (gv hb) rfl) ?_
        refine WL.val (x_pick rfl (.bool (((t24.2.2 == 0) && (decide (p0.sent < 250))) && (decide ((p0.there.length : Int) < 300)))) pick_and) ?_
        refine WL.nil ?_
        refine W.test rfl hm0 ?_ ?_
        · intro hb47 hm0
          refine W.seq ?_
          refine W.region ?_
          refine WL.val (x_lds 2 [(.int .i64 t24.1.Link.Next), (.slice A29 t24.1.Link.Queue.length c30), (.int .i64 t24.1.Window.Low), (.slice A32 t24.1.Window.Seen.length c33)] hO rfl rfl agg30 rfl rfl) ?_
          refine WL.val (x_fa rfl fo34_0) ?_
          refine o_stP 0 (.agg ([(.int .i64 t24.1.Link.Next), (.slice A29 t24.1.Link.Queue.length c30), (.int .i64 t24.1.Window.Low), (.slice A32 t24.1.Window.Seen.length c33)] : List Value).toArray) hO rfl (Enc.mono _ (le23.trans le28) h1_) lSwitchboardlaw23Net_a rfl rfl rfl ⟨A29, c30, A32, c33, rfl, h31, h34⟩ siz30 ?_
          intro cs48 w49 (hr50 : Enc.rep eSwitchboardlaw23Net H26 cs48 ({ p0 with a := (⟨(⟨t24.1.Link.Next, t24.1.Link.Queue⟩ : LinkLink), (⟨t24.1.Window.Low, t24.1.Window.Seen⟩ : WindowWindow)⟩ : PortPort) } : Switchboardlaw23Net)) hO
          refine WL.nil ?_
          refine W.seq ?_
          refine W.region ?_
          refine o_litT (en := eStr) 3 [] ([] : List Str) hO sli31 trivial rfl rfl rfl ?_
          intro g51 cs52 w53 hr54 hO
          refine WL.val (x_fa rfl fo34_2) ?_
          obtain ⟨cs55, hr56, hc57⟩ := lSwitchboardlaw23Net_there.part _ _ _ hr50
          obtain ⟨A58, c59, rfl, h60⟩ := hr56
          refine WL.val (x_ld 0 (.slice A58 (({ p0 with a := (⟨(⟨t24.1.Link.Next, t24.1.Link.Queue⟩ : LinkLink), (⟨t24.1.Window.Low, t24.1.Window.Seen⟩ : WindowWindow)⟩ : PortPort) } : Switchboardlaw23Net).there).length c59) hO rfl rfl (hc57 0 _ rfl) one31) ?_
          obtain ⟨cs61, hs62, hr63⟩ := RS.src h60 hO
          refine o_appT (en := eStr) (xs := ([] : List Str)) (ys := ({ p0 with a := (⟨(⟨t24.1.Link.Next, t24.1.Link.Queue⟩ : LinkLink), (⟨t24.1.Window.Low, t24.1.Window.Seen⟩ : WindowWindow)⟩ : PortPort) } : Switchboardlaw23Net).there) 3 hO rfl hr54 rfl rfl hs62 hr63 sli31 rfl rfl Try.underlying31 hm0 ?_
          intro A64 c65 cs66 w67 hr68 hO hm0
          refine WL.val (x_move (vs t24.2.1) rfl) ?_
          refine o_litT (en := eStr) 4 [(vs t24.2.1)] ([t24.2.1] : List Str) hO sli31 ⟨rfl, trivial⟩ rfl rfl rfl ?_
          intro g69 cs70 w71 hr72 hO
          refine o_appT (en := eStr) (xs := (([] : List Str) ++ ({ p0 with a := (⟨(⟨t24.1.Link.Next, t24.1.Link.Queue⟩ : LinkLink), (⟨t24.1.Window.Low, t24.1.Window.Seen⟩ : WindowWindow)⟩ : PortPort) } : Switchboardlaw23Net).there)) (ys := ([t24.2.1] : List Str)) 3 hO rfl hr68 rfl rfl (Src.row (k := 4) hO rfl) hr72 sli31 rfl rfl Try.underlying31 hm0 ?_
          intro A73 c74 cs75 w76 hr77 hO hm0
          refine WL.val (x_fa rfl fo34_2) ?_
          obtain ⟨H78, le79, h80, hO⟩ := hO.freezeRow (en := eStr) 3 rfl rfl rfl hr77
          refine o_stP 0 (.slice A73 ((([] : List Str) ++ ({ p0 with a := (⟨(⟨t24.1.Link.Next, t24.1.Link.Queue⟩ : LinkLink), (⟨t24.1.Window.Low, t24.1.Window.Seen⟩ : WindowWindow)⟩ : PortPort) } : Switchboardlaw23Net).there) ++ ([t24.2.1] : List Str)).length c74) hO rfl (Enc.mono _ le79 hr50) lSwitchboardlaw23Net_there rfl rfl rfl ⟨A73, c74, rfl, h80⟩ siz31 ?_
          intro cs81 w82 (hr83 : Enc.rep eSwitchboardlaw23Net H78 cs81 ({ ({ p0 with a := (⟨(⟨t24.1.Link.Next, t24.1.Link.Queue⟩ : LinkLink), (⟨t24.1.Window.Low, t24.1.Window.Seen⟩ : WindowWindow)⟩ : PortPort) } : Switchboardlaw23Net) with there := ((([] : List Str) ++ ({ p0 with a := (⟨(⟨t24.1.Link.Next, t24.1.Link.Queue⟩ : LinkLink), (⟨t24.1.Window.Low, t24.1.Window.Seen⟩ : WindowWindow)⟩ : PortPort) } : Switchboardlaw23Net).there) ++ ([t24.2.1] : List Str)) } : Switchboardlaw23Net)) hO
          refine WL.nil ?_
          refine W.region ?_
          refine WL.val (x_fa rfl fo34_5) ?_
          obtain ⟨cs84, hr85, hc86⟩ := lSwitchboardlaw23Net_sent.part _ _ _ hr83
          obtain rfl := hr85
          refine WL.val (x_ld 0 (.int .i64 (({ ({ p0 with a := (⟨(⟨t24.1.Link.Next, t24.1.Link.Queue⟩ : LinkLink), (⟨t24.1.Window.Low, t24.1.Window.Seen⟩ : WindowWindow)⟩ : PortPort) } : Switchboardlaw23Net) with there := ((([] : List Str) ++ ({ p0 with a := (⟨(⟨t24.1.Link.Next, t24.1.Link.Queue⟩ : LinkLink), (⟨t24.1.Window.Low, t24.1.Window.Seen⟩ : WindowWindow)⟩ : PortPort) } : Switchboardlaw23Net).there) ++ ([t24.2.1] : List Str)) } : Switchboardlaw23Net).sent)) hO rfl rfl (hc86 0 _ rfl) one3) ?_
          refine WL.val (x_add rfl rfl) ?_
          refine WL.val (x_fa rfl fo34_5) ?_
          refine o_stP 0 (.int .i64 (i64w ((({ ({ p0 with a := (⟨(⟨t24.1.Link.Next, t24.1.Link.Queue⟩ : LinkLink), (⟨t24.1.Window.Low, t24.1.Window.Seen⟩ : WindowWindow)⟩ : PortPort) } : Switchboardlaw23Net) with there := ((([] : List Str) ++ ({ p0 with a := (⟨(⟨t24.1.Link.Next, t24.1.Link.Queue⟩ : LinkLink), (⟨t24.1.Window.Low, t24.1.Window.Seen⟩ : WindowWindow)⟩ : PortPort) } : Switchboardlaw23Net).there) ++ ([t24.2.1] : List Str)) } : Switchboardlaw23Net).sent) + 1))) hO rfl hr83 lSwitchboardlaw23Net_sent rfl rfl rfl rfl siz3 ?_
          intro cs87 w88 (hr89 : Enc.rep eSwitchboardlaw23Net H78 cs87 ({ ({ ({ p0 with a := (⟨(⟨t24.1.Link.Next, t24.1.Link.Queue⟩ : LinkLink), (⟨t24.1.Window.Low, t24.1.Window.Seen⟩ : WindowWindow)⟩ : PortPort) } : Switchboardlaw23Net) with there := ((([] : List Str) ++ ({ p0 with a := (⟨(⟨t24.1.Link.Next, t24.1.Link.Queue⟩ : LinkLink), (⟨t24.1.Window.Low, t24.1.Window.Seen⟩ : WindowWindow)⟩ : PortPort) } : Switchboardlaw23Net).there) ++ ([t24.2.1] : List Str)) } : Switchboardlaw23Net) with sent := i64w ((({ ({ p0 with a := (⟨(⟨t24.1.Link.Next, t24.1.Link.Queue⟩ : LinkLink), (⟨t24.1.Window.Low, t24.1.Window.Seen⟩ : WindowWindow)⟩ : PortPort) } : Switchboardlaw23Net) with there := ((([] : List Str) ++ ({ p0 with a := (⟨(⟨t24.1.Link.Next, t24.1.Link.Queue⟩ : LinkLink), (⟨t24.1.Window.Low, t24.1.Window.Seen⟩ : WindowWindow)⟩ : PortPort) } : Switchboardlaw23Net).there) ++ ([t24.2.1] : List Str)) } : Switchboardlaw23Net).sent) + 1) } : Switchboardlaw23Net)) hO
          refine WL.nil ?_
          refine W.seq ?_
          refine W.region ?_
          refine WL.val (x_lds 0 cs87 hO rfl rfl agg34 (whole_take (rep_len hr89 rfl)) (rep_len hr89 rfl)) ?_
          refine o_stP 1 (.agg cs87.toArray) hO rfl (zr34 _) (Lens.refl _) rfl rfl rfl hr89 siz34 ?_
          intro cs90 w91 (hr92 : Enc.rep eSwitchboardlaw23Net H78 cs90 ({ ({ ({ p0 with a := (⟨(⟨t24.1.Link.Next, t24.1.Link.Queue⟩ : LinkLink), (⟨t24.1.Window.Low, t24.1.Window.Seen⟩ : WindowWindow)⟩ : PortPort) } : Switchboardlaw23Net) with there := ((([] : List Str) ++ ({ p0 with a := (⟨(⟨t24.1.Link.Next, t24.1.Link.Queue⟩ : LinkLink), (⟨t24.1.Window.Low, t24.1.Window.Seen⟩ : WindowWindow)⟩ : PortPort) } : Switchboardlaw23Net).there) ++ ([t24.2.1] : List Str)) } : Switchboardlaw23Net) with sent := i64w ((({ ({ p0 with a := (⟨(⟨t24.1.Link.Next, t24.1.Link.Queue⟩ : LinkLink), (⟨t24.1.Window.Low, t24.1.Window.Seen⟩ : WindowWindow)⟩ : PortPort) } : Switchboardlaw23Net) with there := ((([] : List Str) ++ ({ p0 with a := (⟨(⟨t24.1.Link.Next, t24.1.Link.Queue⟩ : LinkLink), (⟨t24.1.Window.Low, t24.1.Window.Seen⟩ : WindowWindow)⟩ : PortPort) } : Switchboardlaw23Net).there) ++ ([t24.2.1] : List Str)) } : Switchboardlaw23Net).sent) + 1) } : Switchboardlaw23Net)) hO
          refine WL.nil ?_
          refine W.ret ?_
          obtain rfl := Option.some.inj hm0
          exact ⟨[(.agg cs90.toArray)], ⟨⟨_, rfl, hO.ldBlk 1 rfl agg34 (whole_take (rep_len hr92 rfl)) (rep_len hr92 rfl)⟩, trivial⟩, H78, _, ⟨cs90, rfl, hr92⟩, hO⟩
        · intro hb47 hm0
          refine W.skip ?_
          refine W.seq ?_
          refine W.region ?_
          refine WL.val (x_lds 0 cs1_ hO rfl rfl agg34 (whole_take (rep_len (Enc.mono _ (le23.trans le28) h1_) rfl)) (rep_len (Enc.mono _ (le23.trans le28) h1_) rfl)) ?_
          refine o_stP 1 (.agg cs1_.toArray) hO rfl (zr34 _) (Lens.refl _) rfl rfl rfl (Enc.mono _ (le23.trans le28) h1_) siz34 ?_
          intro cs93 w94 (hr95 : Enc.rep eSwitchboardlaw23Net H26 cs93 p0) hO
          refine WL.nil ?_
          refine W.ret ?_
          obtain rfl := Option.some.inj hm0
          exact ⟨[(.agg cs93.toArray)], ⟨⟨_, rfl, hO.ldBlk 1 rfl agg34 (whole_take (rep_len hr95 rfl)) (rep_len hr95 rfl)⟩, trivial⟩, H26, _, ⟨cs93, rfl, hr95⟩, hO⟩
      · refine ⟨_, rfl, ?_⟩
        refine o_alloc 5 _ [(.int .i64 0), (.slice none 0 0), (.int .i64 0), (.slice none 0 0)] zer30 hO rfl ?_
        intro g26 w27 hO
        have hS : SD w0 H0 [] H0 [(0, .blk g1 cs1_ 34), (1, .blk g3 zc34 34)] _ := ⟨_, _, le23, hO, ⟨rfl, rfl, trivial⟩⟩
        refine WL.nil ⟨fun _ => hS, ?_⟩
        refine WA.only (i := 5) (by kernel_rfl) rfl ?_
        refine o_call hO go9 (port_Send_ok hO.sub (h12.up le23) (h15.up le23) ht25) rfl ?_
        rintro _ H28 w29 le30 ⟨A31, c32, A34, c35, rfl, h33, h36⟩ hO
        have hS : SD w0 H0 [] H0 [(0, .blk g1 cs1_ 34), (1, .blk g3 zc34 34)] _ := ⟨_, _, (le23.trans le30), hO, ⟨rfl, rfl, trivial⟩⟩
        refine WL.nil ⟨fun _ => hS, ?_⟩
        refine WA.take (i := 6) rfl (by kernel_rfl) (fun w hS => x_move (.tuple ([(.agg ([(.int .i64 t24.1.Link.Next), (.slice A31 t24.1.Link.Queue.length c32), (.int .i64 t24.1.Window.Low), (.slice A34 t24.1.Window.Seen.length c35)] : List Value).toArray), (vs t24.2.1), (.int .i64 t24.2.2)] : List Value).toArray) rfl) hS ?_
        refine WA.take (i := 7) rfl (by kernel_rfl) (fun w hS => x_extract (.agg ([(.int .i64 t24.1.Link.Next), (.slice A31 t24.1.Link.Queue.length c32), (.int .i64 t24.1.Window.Low), (.slice A34 t24.1.Window.Seen.length c35)] : List Value).toArray) rfl rfl) hS ?_
        refine WA.take (i := 8) rfl (by kernel_rfl) (fun w hS => x_extract (vs t24.2.1) rfl rfl) hS ?_
        refine WA.take (i := 9) rfl (by kernel_rfl) (fun w hS => x_extract (.int .i64 t24.2.2) rfl rfl) hS ?_
        refine WA.only (i := 11) (by kernel_rfl) rfl ?_
        refine o_sts 5 [(.int .i64 t24.1.Link.Next), (.slice A31 t24.1.Link.Queue.length c32), (.int .i64 t24.1.Window.Low), (.slice A34 t24.1.Window.Seen.length c35)] hO rfl rfl rfl siz30 rfl (Nat.le_of_ble_eq_true rfl) (by simp [Value.oneCell', vs]) ?_
        intro w37 hO
        have hS : SD w0 H0 [] H0 [(0, .blk g1 cs1_ 34), (1, .blk g3 zc34 34)] _ := ⟨_, _, (le23.trans le30), hO, ⟨rfl, rfl, trivial⟩⟩
        refine WL.nil ⟨fun _ => hS, ?_⟩
        refine WA.take (i := 12) rfl (by kernel_rfl) (fun w hS => x_assign (vs t24.2.1) rfl) hS ?_
        refine WA.take (i := 13) rfl (by kernel_rfl) (fun w hS => x_assign (.int .i64 t24.2.2) rfl) hS ?_
        refine WA.done (by kernel_rfl) ?_
        refine W.seq ?_
        refine W.region ?_
        refine WL.val (x_move (.int .i64 t24.2.2) rfl) ?_
        refine WL.val (x_eql rfl rfl) ?_
        refine WL.val (x_move (.bool (t24.2.2 == 0)) rfl) ?_
        refine WL.gval rfl rfl (fun hb => x_fa rfl fo34_5) ?_
        obtain ⟨cs38, hr39, hc40⟩ := lSwitchboardlaw23Net_sent.part _ _ _ (Enc.mono _ (le23.trans le30) h1_)
        obtain rfl := hr39
        refine WL.gval rfl rfl (fun hb => x_ld 0 (.int .i64 p0.sent) hO rfl (gv hb) (hc40 0 _ rfl) one3) ?_
        refine WL.gval rfl rfl (fun hb => x_lss (gv hb) rfl) ?_
        refine WL.val (x_pick rfl (.bool ((t24.2.2 == 0) && (decide (p0.sent < 250)))) pick_and) ?_
        refine WL.val (x_move (.bool ((t24.2.2 == 0) && (decide (p0.sent < 250)))) rfl) ?_
        refine WL.gval rfl rfl (fun hb => x_fa rfl fo34_2) ?_
        obtain ⟨cs41, hr42, hc43⟩ := lSwitchboardlaw23Net_there.part _ _ _ (Enc.mono _ (le23.trans le30) h1_)
        obtain ⟨A44, c45, rfl, h46⟩ := hr42
        refine WL.gval rfl rfl (fun hb => x_ld 0 (.slice A44 p0.there.length c45) hO rfl (gv hb) (hc43 0 _ rfl) one31) ?_
        refine WL.gval rfl rfl (fun hb => x_len (gv hb) Try.underlying31) ?_
        refine WL.gval rfl rfl (fun hb => x_lss (gv hb) rfl) ?_
        refine WL.val (x_pick rfl (.bool (((t24.2.2 == 0) && (decide (p0.sent < 250))) && (decide ((p0.there.length : Int) < 300)))) pick_and) ?_
        refine WL.nil ?_
        refine W.test rfl hm0 ?_ ?_
        · intro hb47 hm0
          refine W.seq ?_
          refine W.region ?_
          refine WL.val (x_lds 5 [(.int .i64 t24.1.Link.Next), (.slice A31 t24.1.Link.Queue.length c32), (.int .i64 t24.1.Window.Low), (.slice A34 t24.1.Window.Seen.length c35)] hO rfl rfl agg30 rfl rfl) ?_
          refine WL.val (x_fa rfl fo34_0) ?_
          refine o_stP 0 (.agg ([(.int .i64 t24.1.Link.Next), (.slice A31 t24.1.Link.Queue.length c32), (.int .i64 t24.1.Window.Low), (.slice A34 t24.1.Window.Seen.length c35)] : List Value).toArray) hO rfl (Enc.mono _ (le23.trans le30) h1_) lSwitchboardlaw23Net_a rfl rfl rfl ⟨A31, c32, A34, c35, rfl, h33, h36⟩ siz30 ?_
          intro cs48 w49 (hr50 : Enc.rep eSwitchboardlaw23Net H28 cs48 ({ p0 with a := (⟨(⟨t24.1.Link.Next, t24.1.Link.Queue⟩ : LinkLink), (⟨t24.1.Window.Low, t24.1.Window.Seen⟩ : WindowWindow)⟩ : PortPort) } : Switchboardlaw23Net)) hO
          refine WL.nil ?_
          refine W.seq ?_
          refine W.region ?_
          refine o_litT (en := eStr) 6 [] ([] : List Str) hO sli31 trivial rfl rfl rfl ?_
          intro g51 cs52 w53 hr54 hO
          refine WL.val (x_fa rfl fo34_2) ?_
          obtain ⟨cs55, hr56, hc57⟩ := lSwitchboardlaw23Net_there.part _ _ _ hr50
          obtain ⟨A58, c59, rfl, h60⟩ := hr56
          refine WL.val (x_ld 0 (.slice A58 (({ p0 with a := (⟨(⟨t24.1.Link.Next, t24.1.Link.Queue⟩ : LinkLink), (⟨t24.1.Window.Low, t24.1.Window.Seen⟩ : WindowWindow)⟩ : PortPort) } : Switchboardlaw23Net).there).length c59) hO rfl rfl (hc57 0 _ rfl) one31) ?_
          obtain ⟨cs61, hs62, hr63⟩ := RS.src h60 hO
          refine o_appT (en := eStr) (xs := ([] : List Str)) (ys := ({ p0 with a := (⟨(⟨t24.1.Link.Next, t24.1.Link.Queue⟩ : LinkLink), (⟨t24.1.Window.Low, t24.1.Window.Seen⟩ : WindowWindow)⟩ : PortPort) } : Switchboardlaw23Net).there) 6 hO rfl hr54 rfl rfl hs62 hr63 sli31 rfl rfl Try.underlying31 hm0 ?_
          intro A64 c65 cs66 w67 hr68 hO hm0
          refine WL.val (x_move (vs t24.2.1) rfl) ?_
          refine o_litT (en := eStr) 7 [(vs t24.2.1)] ([t24.2.1] : List Str) hO sli31 ⟨rfl, trivial⟩ rfl rfl rfl ?_
          intro g69 cs70 w71 hr72 hO
          refine o_appT (en := eStr) (xs := (([] : List Str) ++ ({ p0 with a := (⟨(⟨t24.1.Link.Next, t24.1.Link.Queue⟩ : LinkLink), (⟨t24.1.Window.Low, t24.1.Window.Seen⟩ : WindowWindow)⟩ : PortPort) } : Switchboardlaw23Net).there)) (ys := ([t24.2.1] : List Str)) 6 hO rfl hr68 rfl rfl (Src.row (k := 7) hO rfl) hr72 sli31 rfl rfl Try.underlying31 hm0 ?_
          intro A73 c74 cs75 w76 hr77 hO hm0
          refine WL.val (x_fa rfl fo34_2) ?_
          obtain ⟨H78, le79, h80, hO⟩ := hO.freezeRow (en := eStr) 6 rfl rfl rfl hr77
          refine o_stP 0 (.slice A73 ((([] : List Str) ++ ({ p0 with a := (⟨(⟨t24.1.Link.Next, t24.1.Link.Queue⟩ : LinkLink), (⟨t24.1.Window.Low, t24.1.Window.Seen⟩ : WindowWindow)⟩ : PortPort) } : Switchboardlaw23Net).there) ++ ([t24.2.1] : List Str)).length c74) hO rfl (Enc.mono _ le79 hr50) lSwitchboardlaw23Net_there rfl rfl rfl ⟨A73, c74, rfl, h80⟩ siz31 ?_
          intro cs81 w82 (hr83 : Enc.rep eSwitchboardlaw23Net H78 cs81 ({ ({ p0 with a := (⟨(⟨t24.1.Link.Next, t24.1.Link.Queue⟩ : LinkLink), (⟨t24.1.Window.Low, t24.1.Window.Seen⟩ : WindowWindow)⟩ : PortPort) } : Switchboardlaw23Net) with there := ((([] : List Str) ++ ({ p0 with a := (⟨(⟨t24.1.Link.Next, t24.1.Link.Queue⟩ : LinkLink), (⟨t24.1.Window.Low, t24.1.Window.Seen⟩ : WindowWindow)⟩ : PortPort) } : Switchboardlaw23Net).there) ++ ([t24.2.1] : List Str)) } : Switchboardlaw23Net)) hO
          refine WL.nil ?_
          refine W.region ?_
          refine WL.val (x_fa rfl fo34_5) ?_
          obtain ⟨cs84, hr85, hc86⟩ := lSwitchboardlaw23Net_sent.part _ _ _ hr83
          obtain rfl := hr85
          refine WL.val (x_ld 0 (.int .i64 (({ ({ p0 with a := (⟨(⟨t24.1.Link.Next, t24.1.Link.Queue⟩ : LinkLink), (⟨t24.1.Window.Low, t24.1.Window.Seen⟩ : WindowWindow)⟩ : PortPort) } : Switchboardlaw23Net) with there := ((([] : List Str) ++ ({ p0 with a := (⟨(⟨t24.1.Link.Next, t24.1.Link.Queue⟩ : LinkLink), (⟨t24.1.Window.Low, t24.1.Window.Seen⟩ : WindowWindow)⟩ : PortPort) } : Switchboardlaw23Net).there) ++ ([t24.2.1] : List Str)) } : Switchboardlaw23Net).sent)) hO rfl rfl (hc86 0 _ rfl) one3) ?_
          refine WL.val (x_add rfl rfl) ?_
          refine WL.val (x_fa rfl fo34_5) ?_
          refine o_stP 0 (.int .i64 (i64w ((({ ({ p0 with a := (⟨(⟨t24.1.Link.Next, t24.1.Link.Queue⟩ : LinkLink), (⟨t24.1.Window.Low, t24.1.Window.Seen⟩ : WindowWindow)⟩ : PortPort) } : Switchboardlaw23Net) with there := ((([] : List Str) ++ ({ p0 with a := (⟨(⟨t24.1.Link.Next, t24.1.Link.Queue⟩ : LinkLink), (⟨t24.1.Window.Low, t24.1.Window.Seen⟩ : WindowWindow)⟩ : PortPort) } : Switchboardlaw23Net).there) ++ ([t24.2.1] : List Str)) } : Switchboardlaw23Net).sent) + 1))) hO rfl hr83 lSwitchboardlaw23Net_sent rfl rfl rfl rfl siz3 ?_
          intro cs87 w88 (hr89 : Enc.rep eSwitchboardlaw23Net H78 cs87 ({ ({ ({ p0 with a := (⟨(⟨t24.1.Link.Next, t24.1.Link.Queue⟩ : LinkLink), (⟨t24.1.Window.Low, t24.1.Window.Seen⟩ : WindowWindow)⟩ : PortPort) } : Switchboardlaw23Net) with there := ((([] : List Str) ++ ({ p0 with a := (⟨(⟨t24.1.Link.Next, t24.1.Link.Queue⟩ : LinkLink), (⟨t24.1.Window.Low, t24.1.Window.Seen⟩ : WindowWindow)⟩ : PortPort) } : Switchboardlaw23Net).there) ++ ([t24.2.1] : List Str)) } : Switchboardlaw23Net) with sent := i64w ((({ ({ p0 with a := (⟨(⟨t24.1.Link.Next, t24.1.Link.Queue⟩ : LinkLink), (⟨t24.1.Window.Low, t24.1.Window.Seen⟩ : WindowWindow)⟩ : PortPort) } : Switchboardlaw23Net) with there := ((([] : List Str) ++ ({ p0 with a := (⟨(⟨t24.1.Link.Next, t24.1.Link.Queue⟩ : LinkLink), (⟨t24.1.Window.Low, t24.1.Window.Seen⟩ : WindowWindow)⟩ : PortPort) } : Switchboardlaw23Net).there) ++ ([t24.2.1] : List Str)) } : Switchboardlaw23Net).sent) + 1) } : Switchboardlaw23Net)) hO
          refine WL.nil ?_
          refine W.seq ?_
          refine W.region ?_
          refine WL.val (x_lds 0 cs87 hO rfl rfl agg34 (whole_take (rep_len hr89 rfl)) (rep_len hr89 rfl)) ?_
          refine o_stP 1 (.agg cs87.toArray) hO rfl (zr34 _) (Lens.refl _) rfl rfl rfl hr89 siz34 ?_
          intro cs90 w91 (hr92 : Enc.rep eSwitchboardlaw23Net H78 cs90 ({ ({ ({ p0 with a := (⟨(⟨t24.1.Link.Next, t24.1.Link.Queue⟩ : LinkLink), (⟨t24.1.Window.Low, t24.1.Window.Seen⟩ : WindowWindow)⟩ : PortPort) } : Switchboardlaw23Net) with there := ((([] : List Str) ++ ({ p0 with a := (⟨(⟨t24.1.Link.Next, t24.1.Link.Queue⟩ : LinkLink), (⟨t24.1.Window.Low, t24.1.Window.Seen⟩ : WindowWindow)⟩ : PortPort) } : Switchboardlaw23Net).there) ++ ([t24.2.1] : List Str)) } : Switchboardlaw23Net) with sent := i64w ((({ ({ p0 with a := (⟨(⟨t24.1.Link.Next, t24.1.Link.Queue⟩ : LinkLink), (⟨t24.1.Window.Low, t24.1.Window.Seen⟩ : WindowWindow)⟩ : PortPort) } : Switchboardlaw23Net) with there := ((([] : List Str) ++ ({ p0 with a := (⟨(⟨t24.1.Link.Next, t24.1.Link.Queue⟩ : LinkLink), (⟨t24.1.Window.Low, t24.1.Window.Seen⟩ : WindowWindow)⟩ : PortPort) } : Switchboardlaw23Net).there) ++ ([t24.2.1] : List Str)) } : Switchboardlaw23Net).sent) + 1) } : Switchboardlaw23Net)) hO
          refine WL.nil ?_
          refine W.ret ?_
          obtain rfl := Option.some.inj hm0
          exact ⟨[(.agg cs90.toArray)], ⟨⟨_, rfl, hO.ldBlk 1 rfl agg34 (whole_take (rep_len hr92 rfl)) (rep_len hr92 rfl)⟩, trivial⟩, H78, _, ⟨cs90, rfl, hr92⟩, hO⟩
        · intro hb47 hm0
          refine W.skip ?_
          refine W.seq ?_
          refine W.region ?_
          refine WL.val (x_lds 0 cs1_ hO rfl rfl agg34 (whole_take (rep_len (Enc.mono _ (le23.trans le30) h1_) rfl)) (rep_len (Enc.mono _ (le23.trans le30) h1_) rfl)) ?_
          refine o_stP 1 (.agg cs1_.toArray) hO rfl (zr34 _) (Lens.refl _) rfl rfl rfl (Enc.mono _ (le23.trans le30) h1_) siz34 ?_
          intro cs93 w94 (hr95 : Enc.rep eSwitchboardlaw23Net H28 cs93 p0) hO
          refine WL.nil ?_
          refine W.ret ?_
          obtain rfl := Option.some.inj hm0
          exact ⟨[(.agg cs93.toArray)], ⟨⟨_, rfl, hO.ldBlk 1 rfl agg34 (whole_take (rep_len hr95 rfl)) (rep_len hr95 rfl)⟩, trivial⟩, H28, _, ⟨cs93, rfl, hr95⟩, hO⟩
    · refine ⟨_, rfl, ?_⟩
      refine o_alloc 8 _ [(.int .i64 0), (.slice none 0 0), (.int .i64 0), (.slice none 0 0)] zer30 hO rfl ?_
      intro g21 w22 hO
      have hS : SD w0 H0 [] H0 [(0, .blk g1 cs1_ 34), (1, .blk g3 zc34 34)] _ := ⟨_, _, (Le.refl _), hO, ⟨rfl, rfl, trivial⟩⟩
      refine WL.nil ⟨fun _ => hS, ?_⟩
      refine WA.only (i := 4) (by kernel_rfl) rfl ?_
      refine o_call hO go10 (switchboardlaw23_text_ok hO.sub  ht20) rfl ?_
      rintro _ H23 w24 le25 rfl hO
      have hS : SD w0 H0 [] H0 [(0, .blk g1 cs1_ 34), (1, .blk g3 zc34 34)] _ := ⟨_, _, le25, hO, ⟨rfl, rfl, trivial⟩⟩
      refine WL.nil ⟨fun _ => hS, ?_⟩
      refine WA.only (i := 5) (by kernel_rfl) rfl ?_
      obtain ⟨t26, ht27, hm0⟩ := bindSome hm0
      refine o_call hO go9 (port_Send_ok hO.sub (h12.up le25) (h15.up le25) ht27) rfl ?_
      rintro _ H28 w29 le30 ⟨A31, c32, A34, c35, rfl, h33, h36⟩ hO
      have hS : SD w0 H0 [] H0 [(0, .blk g1 cs1_ 34), (1, .blk g3 zc34 34)] _ := ⟨_, _, (le25.trans le30), hO, ⟨rfl, rfl, trivial⟩⟩
      refine WL.nil ⟨fun _ => hS, ?_⟩
      refine WA.take (i := 6) rfl (by kernel_rfl) (fun w hS => x_move (.tuple ([(.agg ([(.int .i64 t26.1.Link.Next), (.slice A31 t26.1.Link.Queue.length c32), (.int .i64 t26.1.Window.Low), (.slice A34 t26.1.Window.Seen.length c35)] : List Value).toArray), (vs t26.2.1), (.int .i64 t26.2.2)] : List Value).toArray) rfl) hS ?_
      refine WA.take (i := 7) rfl (by kernel_rfl) (fun w hS => x_extract (.agg ([(.int .i64 t26.1.Link.Next), (.slice A31 t26.1.Link.Queue.length c32), (.int .i64 t26.1.Window.Low), (.slice A34 t26.1.Window.Seen.length c35)] : List Value).toArray) rfl rfl) hS ?_
      refine WA.take (i := 8) rfl (by kernel_rfl) (fun w hS => x_extract (vs t26.2.1) rfl rfl) hS ?_
      refine WA.take (i := 9) rfl (by kernel_rfl) (fun w hS => x_extract (.int .i64 t26.2.2) rfl rfl) hS ?_
      refine WA.only (i := 11) (by kernel_rfl) rfl ?_
      refine o_sts 8 [(.int .i64 t26.1.Link.Next), (.slice A31 t26.1.Link.Queue.length c32), (.int .i64 t26.1.Window.Low), (.slice A34 t26.1.Window.Seen.length c35)] hO rfl rfl rfl siz30 rfl (Nat.le_of_ble_eq_true rfl) (by simp [Value.oneCell', vs]) ?_
      intro w37 hO
      have hS : SD w0 H0 [] H0 [(0, .blk g1 cs1_ 34), (1, .blk g3 zc34 34)] _ := ⟨_, _, (le25.trans le30), hO, ⟨rfl, rfl, trivial⟩⟩
      refine WL.nil ⟨fun _ => hS, ?_⟩
      refine WA.take (i := 12) rfl (by kernel_rfl) (fun w hS => x_assign (vs t26.2.1) rfl) hS ?_
      refine WA.take (i := 13) rfl (by kernel_rfl) (fun w hS => x_assign (.int .i64 t26.2.2) rfl) hS ?_
      refine WA.done (by kernel_rfl) ?_
      refine W.seq ?_
      refine W.region ?_
      refine WL.val (x_move (.int .i64 t26.2.2) rfl) ?_
      refine WL.val (x_eql rfl rfl) ?_
      refine WL.val (x_move (.bool (t26.2.2 == 0)) rfl) ?_
      refine WL.gval rfl rfl (fun hb => x_fa rfl fo34_5) ?_
      obtain ⟨cs38, hr39, hc40⟩ := lSwitchboardlaw23Net_sent.part _ _ _ (Enc.mono _ (le25.trans le30) h1_)
      obtain rfl := hr39
      refine WL.gval rfl rfl (fun hb => x_ld 0 (.int .i64 p0.sent) hO rfl (gv hb) (hc40 0 _ rfl) one3) ?_
      refine WL.gval rfl rfl (fun hb => x_lss (gv hb) rfl) ?_
      refine WL.val (x_pick rfl (.bool ((t26.2.2 == 0) && (decide (p0.sent < 250)))) pick_and) ?_
      refine WL.val (x_move (.bool ((t26.2.2 == 0) && (decide (p0.sent < 250)))) rfl) ?_
      refine WL.gval rfl rfl (fun hb => x_fa rfl fo34_2) ?_
      obtain ⟨cs41, hr42, hc43⟩ := lSwitchboardlaw23Net_there.part _ _ _ (Enc.mono _ (le25.trans le30) h1_)
      obtain ⟨A44, c45, rfl, h46⟩ := hr42
      refine WL.gval rfl rfl (fun hb => x_ld 0 (.slice A44 p0.there.length c45) hO rfl (gv hb) (hc43 0 _ rfl) one31) ?_
      refine WL.gval rfl rfl (fun hb => x_len (gv hb) Try.underlying31) ?_
      refine WL.gval rfl rfl (fun hb => x_lss (gv hb) rfl) ?_
      refine WL.val (x_pick rfl (.bool (((t26.2.2 == 0) && (decide (p0.sent < 250))) && (decide ((p0.there.length : Int) < 300)))) pick_and) ?_
      refine WL.nil ?_
      refine W.test rfl hm0 ?_ ?_
      · intro hb47 hm0
        refine W.seq ?_
        refine W.region ?_
        refine WL.val (x_lds 8 [(.int .i64 t26.1.Link.Next), (.slice A31 t26.1.Link.Queue.length c32), (.int .i64 t26.1.Window.Low), (.slice A34 t26.1.Window.Seen.length c35)] hO rfl rfl agg30 rfl rfl) ?_
        refine WL.val (x_fa rfl fo34_0) ?_
        refine o_stP 0 (.agg ([(.int .i64 t26.1.Link.Next), (.slice A31 t26.1.Link.Queue.length c32), (.int .i64 t26.1.Window.Low), (.slice A34 t26.1.Window.Seen.length c35)] : List Value).toArray) hO rfl (Enc.mono _ (le25.trans le30) h1_) lSwitchboardlaw23Net_a rfl rfl rfl ⟨A31, c32, A34, c35, rfl, h33, h36⟩ siz30 ?_
        intro cs48 w49 (hr50 : Enc.rep eSwitchboardlaw23Net H28 cs48 ({ p0 with a := (⟨(⟨t26.1.Link.Next, t26.1.Link.Queue⟩ : LinkLink), (⟨t26.1.Window.Low, t26.1.Window.Seen⟩ : WindowWindow)⟩ : PortPort) } : Switchboardlaw23Net)) hO
        refine WL.nil ?_
        refine W.seq ?_
        refine W.region ?_
        refine o_litT (en := eStr) 9 [] ([] : List Str) hO sli31 trivial rfl rfl rfl ?_
        intro g51 cs52 w53 hr54 hO
        refine WL.val (x_fa rfl fo34_2) ?_
        obtain ⟨cs55, hr56, hc57⟩ := lSwitchboardlaw23Net_there.part _ _ _ hr50
        obtain ⟨A58, c59, rfl, h60⟩ := hr56
        refine WL.val (x_ld 0 (.slice A58 (({ p0 with a := (⟨(⟨t26.1.Link.Next, t26.1.Link.Queue⟩ : LinkLink), (⟨t26.1.Window.Low, t26.1.Window.Seen⟩ : WindowWindow)⟩ : PortPort) } : Switchboardlaw23Net).there).length c59) hO rfl rfl (hc57 0 _ rfl) one31) ?_
        obtain ⟨cs61, hs62, hr63⟩ := RS.src h60 hO
        refine o_appT (en := eStr) (xs := ([] : List Str)) (ys := ({ p0 with a := (⟨(⟨t26.1.Link.Next, t26.1.Link.Queue⟩ : LinkLink), (⟨t26.1.Window.Low, t26.1.Window.Seen⟩ : WindowWindow)⟩ : PortPort) } : Switchboardlaw23Net).there) 9 hO rfl hr54 rfl rfl hs62 hr63 sli31 rfl rfl Try.underlying31 hm0 ?_
        intro A64 c65 cs66 w67 hr68 hO hm0
        refine WL.val (x_move (vs t26.2.1) rfl) ?_
        refine o_litT (en := eStr) 10 [(vs t26.2.1)] ([t26.2.1] : List Str) hO sli31 ⟨rfl, trivial⟩ rfl rfl rfl ?_
        intro g69 cs70 w71 hr72 hO
        refine o_appT (en := eStr) (xs := (([] : List Str) ++ ({ p0 with a := (⟨(⟨t26.1.Link.Next, t26.1.Link.Queue⟩ : LinkLink), (⟨t26.1.Window.Low, t26.1.Window.Seen⟩ : WindowWindow)⟩ : PortPort) } : Switchboardlaw23Net).there)) (ys := ([t26.2.1] : List Str)) 9 hO rfl hr68 rfl rfl (Src.row (k := 10) hO rfl) hr72 sli31 rfl rfl Try.underlying31 hm0 ?_
        intro A73 c74 cs75 w76 hr77 hO hm0
        refine WL.val (x_fa rfl fo34_2) ?_
        obtain ⟨H78, le79, h80, hO⟩ := hO.freezeRow (en := eStr) 9 rfl rfl rfl hr77
        refine o_stP 0 (.slice A73 ((([] : List Str) ++ ({ p0 with a := (⟨(⟨t26.1.Link.Next, t26.1.Link.Queue⟩ : LinkLink), (⟨t26.1.Window.Low, t26.1.Window.Seen⟩ : WindowWindow)⟩ : PortPort) } : Switchboardlaw23Net).there) ++ ([t26.2.1] : List Str)).length c74) hO rfl (Enc.mono _ le79 hr50) lSwitchboardlaw23Net_there rfl rfl rfl ⟨A73, c74, rfl, h80⟩ siz31 ?_
        intro cs81 w82 (hr83 : Enc.rep eSwitchboardlaw23Net H78 cs81 ({ ({ p0 with a := (⟨(⟨t26.1.Link.Next, t26.1.Link.Queue⟩ : LinkLink), (⟨t26.1.Window.Low, t26.1.Window.Seen⟩ : WindowWindow)⟩ : PortPort) } : Switchboardlaw23Net) with there := ((([] : List Str) ++ ({ p0 with a := (⟨(⟨t26.1.Link.Next, t26.1.Link.Queue⟩ : LinkLink), (⟨t26.1.Window.Low, t26.1.Window.Seen⟩ : WindowWindow)⟩ : PortPort) } : Switchboardlaw23Net).there) ++ ([t26.2.1] : List Str)) } : Switchboardlaw23Net)) hO
        refine WL.nil ?_
        refine W.region ?_
        refine WL.val (x_fa rfl fo34_5) ?_
        obtain ⟨cs84, hr85, hc86⟩ := lSwitchboardlaw23Net_sent.part _ _ _ hr83
        obtain rfl := hr85
        refine WL.val (x_ld 0 (.int .i64 (({ ({ p0 with a := (⟨(⟨t26.1.Link.Next, t26.1.Link.Queue⟩ : LinkLink), (⟨t26.1.Window.Low, t26.1.Window.Seen⟩ : WindowWindow)⟩ : PortPort) } : Switchboardlaw23Net) with there := ((([] : List Str) ++ ({ p0 with a := (⟨(⟨t26.1.Link.Next, t26.1.Link.Queue⟩ : LinkLink), (⟨t26.1.Window.Low, t26.1.Window.Seen⟩ : WindowWindow)⟩ : PortPort) } : Switchboardlaw23Net).there) ++ ([t26.2.1] : List Str)) } : Switchboardlaw23Net).sent)) hO rfl rfl (hc86 0 _ rfl) one3) ?_
        refine WL.val (x_add rfl rfl) ?_
        refine WL.val (x_fa rfl fo34_5) ?_
        refine o_stP 0 (.int .i64 (i64w ((({ ({ p0 with a := (⟨(⟨t26.1.Link.Next, t26.1.Link.Queue⟩ : LinkLink), (⟨t26.1.Window.Low, t26.1.Window.Seen⟩ : WindowWindow)⟩ : PortPort) } : Switchboardlaw23Net) with there := ((([] : List Str) ++ ({ p0 with a := (⟨(⟨t26.1.Link.Next, t26.1.Link.Queue⟩ : LinkLink), (⟨t26.1.Window.Low, t26.1.Window.Seen⟩ : WindowWindow)⟩ : PortPort) } : Switchboardlaw23Net).there) ++ ([t26.2.1] : List Str)) } : Switchboardlaw23Net).sent) + 1))) hO rfl hr83 lSwitchboardlaw23Net_sent rfl rfl rfl rfl siz3 ?_
        intro cs87 w88 (hr89 : Enc.rep eSwitchboardlaw23Net H78 cs87 ({ ({ ({ p0 with a := (⟨(⟨t26.1.Link.Next, t26.1.Link.Queue⟩ : LinkLink), (⟨t26.1.Window.Low, t26.1.Window.Seen⟩ : WindowWindow)⟩ : PortPort) } : Switchboardlaw23Net) with there := ((([] : List Str) ++ ({ p0 with a := (⟨(⟨t26.1.Link.Next, t26.1.Link.Queue⟩ : LinkLink), (⟨t26.1.Window.Low, t26.1.Window.Seen⟩ : WindowWindow)⟩ : PortPort) } : Switchboardlaw23Net).there) ++ ([t26.2.1] : List Str)) } : Switchboardlaw23Net) with sent := i64w ((({ ({ p0 with a := (⟨(⟨t26.1.Link.Next, t26.1.Link.Queue⟩ : LinkLink), (⟨t26.1.Window.Low, t26.1.Window.Seen⟩ : WindowWindow)⟩ : PortPort) } : Switchboardlaw23Net) with there := ((([] : List Str) ++ ({ p0 with a := (⟨(⟨t26.1.Link.Next, t26.1.Link.Queue⟩ : LinkLink), (⟨t26.1.Window.Low, t26.1.Window.Seen⟩ : WindowWindow)⟩ : PortPort) } : Switchboardlaw23Net).there) ++ ([t26.2.1] : List Str)) } : Switchboardlaw23Net).sent) + 1) } : Switchboardlaw23Net)) hO
        refine WL.nil ?_
        refine W.seq ?_
        refine W.region ?_
        refine WL.val (x_lds 0 cs87 hO rfl rfl agg34 (whole_take (rep_len hr89 rfl)) (rep_len hr89 rfl)) ?_
        refine o_stP 1 (.agg cs87.toArray) hO rfl (zr34 _) (Lens.refl _) rfl rfl rfl hr89 siz34 ?_
        intro cs90 w91 (hr92 : Enc.rep eSwitchboardlaw23Net H78 cs90 ({ ({ ({ p0 with a := (⟨(⟨t26.1.Link.Next, t26.1.Link.Queue⟩ : LinkLink), (⟨t26.1.Window.Low, t26.1.Window.Seen⟩ : WindowWindow)⟩ : PortPort) } : Switchboardlaw23Net) with there := ((([] : List Str) ++ ({ p0 with a := (⟨(⟨t26.1.Link.Next, t26.1.Link.Queue⟩ : LinkLink), (⟨t26.1.Window.Low, t26.1.Window.Seen⟩ : WindowWindow)⟩ : PortPort) } : Switchboardlaw23Net).there) ++ ([t26.2.1] : List Str)) } : Switchboardlaw23Net) with sent := i64w ((({ ({ p0 with a := (⟨(⟨t26.1.Link.Next, t26.1.Link.Queue⟩ : LinkLink), (⟨t26.1.Window.Low, t26.1.Window.Seen⟩ : WindowWindow)⟩ : PortPort) } : Switchboardlaw23Net) with there := ((([] : List Str) ++ ({ p0 with a := (⟨(⟨t26.1.Link.Next, t26.1.Link.Queue⟩ : LinkLink), (⟨t26.1.Window.Low, t26.1.Window.Seen⟩ : WindowWindow)⟩ : PortPort) } : Switchboardlaw23Net).there) ++ ([t26.2.1] : List Str)) } : Switchboardlaw23Net).sent) + 1) } : Switchboardlaw23Net)) hO
        refine WL.nil ?_
        refine W.ret ?_
        obtain rfl := Option.some.inj hm0
        exact ⟨[(.agg cs90.toArray)], ⟨⟨_, rfl, hO.ldBlk 1 rfl agg34 (whole_take (rep_len hr92 rfl)) (rep_len hr92 rfl)⟩, trivial⟩, H78, _, ⟨cs90, rfl, hr92⟩, hO⟩
      · intro hb47 hm0
        refine W.skip ?_
        refine W.seq ?_
        refine W.region ?_
        refine WL.val (x_lds 0 cs1_ hO rfl rfl agg34 (whole_take (rep_len (Enc.mono _ (le25.trans le30) h1_) rfl)) (rep_len (Enc.mono _ (le25.trans le30) h1_) rfl)) ?_
        refine o_stP 1 (.agg cs1_.toArray) hO rfl (zr34 _) (Lens.refl _) rfl rfl rfl (Enc.mono _ (le25.trans le30) h1_) siz34 ?_
        intro cs93 w94 (hr95 : Enc.rep eSwitchboardlaw23Net H28 cs93 p0) hO
        refine WL.nil ?_
        refine W.ret ?_
        obtain rfl := Option.some.inj hm0
        exact ⟨[(.agg cs93.toArray)], ⟨⟨_, rfl, hO.ldBlk 1 rfl agg34 (whole_take (rep_len hr95 rfl)) (rep_len hr95 rfl)⟩, trivial⟩, H28, _, ⟨cs93, rfl, hr95⟩, hO⟩
  · intro hb5 hm0
    refine W.seq ?_
    refine W.seq ?_
    refine W.region ?_
    refine WL.val (x_eql rfl rfl) ?_
    refine WL.val (x_assign (.bool (p1 == 1)) rfl) ?_
    refine WL.nil ?_
    refine W.test rfl hm0 ?_ ?_
    · intro hb96 hm0
      refine W.skip ?_
      refine W.cond_t (kb rfl hb96) ?_
      refine W.seq ?_
      refine W.region ?_
      refine WL.val (x_lds 0 cs1_ hO rfl rfl agg34 (whole_take (rep_len h1_ rfl)) (rep_len h1_ rfl)) ?_
      refine WL.val (x_move (.int .i64 p2) rfl) ?_
      refine WL.val (x_move (.int .i64 p1) rfl) ?_
      refine WL.val (x_eql rfl rfl) ?_
      obtain ⟨t97, ht98, hm0⟩ := bindSome hm0
      refine o_call hO go7 (switchboardlaw23_deliver_ok hO.sub h1_ ht98) rfl ?_
      rintro _ H99 w100 le101 ⟨cs102, rfl, h103⟩ hO
      refine o_stP 1 (.agg cs102.toArray) hO rfl (zr34 _) (Lens.refl _) rfl rfl rfl h103 siz34 ?_
      intro cs104 w105 (hr106 : Enc.rep eSwitchboardlaw23Net H99 cs104 t97) hO
      refine WL.nil ?_
      refine W.ret ?_
      obtain rfl := Option.some.inj hm0
      exact ⟨[(.agg cs104.toArray)], ⟨⟨_, rfl, hO.ldBlk 1 rfl agg34 (whole_take (rep_len hr106 rfl)) (rep_len hr106 rfl)⟩, trivial⟩, H99, _, ⟨cs104, rfl, hr106⟩, hO⟩
    · intro hb96 hm0
      refine W.region ?_
      refine WL.val (x_eql rfl rfl) ?_
      refine WL.val (x_assign (.bool (p1 == 2)) rfl) ?_
      refine WL.nil ?_
      refine W.test rfl hm0 ?_ ?_
      · intro hb107 hm0
        refine W.seq ?_
        refine W.region ?_
        refine WL.val (x_lds 0 cs1_ hO rfl rfl agg34 (whole_take (rep_len h1_ rfl)) (rep_len h1_ rfl)) ?_
        refine WL.val (x_move (.int .i64 p2) rfl) ?_
        refine WL.val (x_move (.int .i64 p1) rfl) ?_
        refine WL.val (x_eql rfl rfl) ?_
        obtain ⟨t108, ht109, hm0⟩ := bindSome hm0
        refine o_call hO go7 (switchboardlaw23_deliver_ok hO.sub h1_ ht109) rfl ?_
        rintro _ H110 w111 le112 ⟨cs113, rfl, h114⟩ hO
        refine o_stP 1 (.agg cs113.toArray) hO rfl (zr34 _) (Lens.refl _) rfl rfl rfl h114 siz34 ?_
        intro cs115 w116 (hr117 : Enc.rep eSwitchboardlaw23Net H110 cs115 t108) hO
        refine WL.nil ?_
        refine W.ret ?_
        obtain rfl := Option.some.inj hm0
        exact ⟨[(.agg cs115.toArray)], ⟨⟨_, rfl, hO.ldBlk 1 rfl agg34 (whole_take (rep_len hr117 rfl)) (rep_len hr117 rfl)⟩, trivial⟩, H110, _, ⟨cs115, rfl, hr117⟩, hO⟩
      · intro hb107 hm0
        refine W.seq ?_
        refine W.region ?_
        refine WL.val (x_eql rfl rfl) ?_
        refine WL.val (x_assign (.bool (p1 == 3)) rfl) ?_
        refine WL.nil ?_
        refine W.test rfl hm0 ?_ ?_
        · intro hb118 hm0
          refine W.seq ?_
          refine W.region ?_
          refine WL.val (x_fa rfl fo34_2) ?_
          obtain ⟨cs119, hr120, hc121⟩ := lSwitchboardlaw23Net_there.part _ _ _ h1_
          obtain ⟨A122, c123, rfl, h124⟩ := hr120
          refine WL.val (x_ld 0 (.slice A122 p0.there.length c123) hO rfl rfl (hc121 0 _ rfl) one31) ?_
          refine WL.val (x_len rfl Try.underlying31) ?_
          refine WL.val (x_gtr rfl rfl) ?_
          refine WL.nil ?_
          refine W.test rfl hm0 ?_ ?_
          · intro hb125 hm0
            refine W.draw (SD w0 H0 [] H0 [(0, .blk g1 cs1_ 34), (1, .blk g3 zc34 34)]) (fun i => ([9] : List Nat).contains i) mixed 10 rfl _ rfl ?_
            intro w126 hh1 hh2 hh3 hh4; have hO := hO.same hh1 hh2 hh3 hh4; clear hh1 hh2 hh3 hh4
            have hS : SD w0 H0 [] H0 [(0, .blk g1 cs1_ 34), (1, .blk g3 zc34 34)] w126 := ⟨_, _, Le.refl _, hO, ⟨rfl, rfl, trivial⟩⟩
            refine WA.take (i := 0) rfl (by kernel_rfl) (fun w hS => x_fa rfl fo34_2) hS ?_
            obtain ⟨cs127, hr128, hc129⟩ := lSwitchboardlaw23Net_there.part _ _ _ h1_
            obtain ⟨A130, c131, rfl, h132⟩ := hr128
            refine WA.take (i := 1) rfl (by kernel_rfl) (fun w hS => x_ldD 0 (.slice A130 p0.there.length c131) hS rfl rfl (hc129 0 _ rfl) one31) hS ?_
            refine WA.take (i := 2) rfl (by kernel_rfl) (fun w hS => x_move (.int .i64 p2) rfl) hS ?_
            refine WA.take (i := 3) rfl (by kernel_rfl) (fun w hS => x_fa rfl fo34_2) hS ?_
            obtain ⟨cs133, hr134, hc135⟩ := lSwitchboardlaw23Net_there.part _ _ _ h1_
            obtain ⟨A136, c137, rfl, h138⟩ := hr134
            refine WA.take (i := 4) rfl (by kernel_rfl) (fun w hS => x_ldD 0 (.slice A136 p0.there.length c137) hS rfl rfl (hc135 0 _ rfl) one31) hS ?_
            refine WA.take (i := 5) rfl (by kernel_rfl) (fun w hS => x_len rfl Try.underlying31) hS ?_
            obtain ⟨hz139, hm0⟩ := chk hm0
            refine WA.take (i := 6) rfl (by kernel_rfl) (fun w hS => x_rem rfl rfl (nz hz139)) hS ?_
            refine WA.only (i := 7) (by kernel_rfl) rfl ?_
            obtain ⟨t140, ht141, hm0⟩ := bindSome hm0
            refine o_call hO go11 (switchboardref08_Without_ok hO.sub h132 ht141) rfl ?_
            rintro _ H142 w143 le144 ⟨A145, c146, rfl, h147⟩ hO
            have hS : SD w0 H0 [] H0 [(0, .blk g1 cs1_ 34), (1, .blk g3 zc34 34)] _ := ⟨_, _, le144, hO, ⟨rfl, rfl, trivial⟩⟩
            refine WL.nil ⟨fun _ => hS, ?_⟩
            refine WA.take (i := 8) rfl (by kernel_rfl) (fun w hS => x_fa rfl fo34_2) hS ?_
            refine WA.only (i := 9) (by kernel_rfl) rfl ?_
            refine o_stP 0 (.slice A145 t140.length c146) hO rfl (Enc.mono _ le144 h1_) lSwitchboardlaw23Net_there rfl rfl rfl ⟨A145, c146, rfl, h147⟩ siz31 ?_
            intro cs148 w149 (hr150 : Enc.rep eSwitchboardlaw23Net H142 cs148 ({ p0 with there := t140 } : Switchboardlaw23Net)) hO
            refine WL.nil ⟨fun h => absurd h (by decide), ?_⟩
            refine WA.done (by kernel_rfl) ?_
            refine W.seq ?_
            refine W.region ?_
            refine WL.val (x_lds 0 cs148 hO rfl rfl agg34 (whole_take (rep_len hr150 rfl)) (rep_len hr150 rfl)) ?_
            refine o_stP 1 (.agg cs148.toArray) hO rfl (zr34 _) (Lens.refl _) rfl rfl rfl hr150 siz34 ?_
            intro cs151 w152 (hr153 : Enc.rep eSwitchboardlaw23Net H142 cs151 ({ p0 with there := t140 } : Switchboardlaw23Net)) hO
            refine WL.nil ?_
            refine W.ret ?_
            obtain rfl := Option.some.inj hm0
            exact ⟨[(.agg cs151.toArray)], ⟨⟨_, rfl, hO.ldBlk 1 rfl agg34 (whole_take (rep_len hr153 rfl)) (rep_len hr153 rfl)⟩, trivial⟩, H142, _, ⟨cs151, rfl, hr153⟩, hO⟩
          · intro hb125 hm0
            refine W.skip ?_
            refine W.seq ?_
            refine W.region ?_
            refine WL.val (x_lds 0 cs1_ hO rfl rfl agg34 (whole_take (rep_len h1_ rfl)) (rep_len h1_ rfl)) ?_
            refine o_stP 1 (.agg cs1_.toArray) hO rfl (zr34 _) (Lens.refl _) rfl rfl rfl h1_ siz34 ?_
            intro cs154 w155 (hr156 : Enc.rep eSwitchboardlaw23Net H0 cs154 p0) hO
            refine WL.nil ?_
            refine W.ret ?_
            obtain rfl := Option.some.inj hm0
            exact ⟨[(.agg cs154.toArray)], ⟨⟨_, rfl, hO.ldBlk 1 rfl agg34 (whole_take (rep_len hr156 rfl)) (rep_len hr156 rfl)⟩, trivial⟩, H0, _, ⟨cs154, rfl, hr156⟩, hO⟩
        · intro hb118 hm0
          refine W.seq ?_
          refine W.region ?_
          refine WL.val (x_eql rfl rfl) ?_
          refine WL.val (x_assign (.bool (p1 == 4)) rfl) ?_
          refine WL.nil ?_
          refine W.test rfl hm0 ?_ ?_
          · intro hb157 hm0
            refine W.seq ?_
            refine W.region ?_
            refine WL.val (x_lds 0 cs1_ hO rfl rfl agg34 (whole_take (rep_len h1_ rfl)) (rep_len h1_ rfl)) ?_
            refine WL.val (x_move (.int .i64 p2) rfl) ?_
            obtain ⟨t158, ht159, hm0⟩ := bindSome hm0
            refine o_call hO go5 (switchboardlaw23_tell_ok hO.sub h1_ ht159) rfl ?_
            rintro _ H160 w161 le162 ⟨cs163, rfl, h164⟩ hO
            refine o_stP 1 (.agg cs163.toArray) hO rfl (zr34 _) (Lens.refl _) rfl rfl rfl h164 siz34 ?_
            intro cs165 w166 (hr167 : Enc.rep eSwitchboardlaw23Net H160 cs165 t158) hO
            refine WL.nil ?_
            refine W.ret ?_
            obtain rfl := Option.some.inj hm0
            exact ⟨[(.agg cs165.toArray)], ⟨⟨_, rfl, hO.ldBlk 1 rfl agg34 (whole_take (rep_len hr167 rfl)) (rep_len hr167 rfl)⟩, trivial⟩, H160, _, ⟨cs165, rfl, hr167⟩, hO⟩
          · intro hb157 hm0
            refine W.seq ?_
            refine W.region ?_
            refine WL.val (x_eql rfl rfl) ?_
            refine WL.val (x_assign (.bool (p1 == 5)) rfl) ?_
            refine WL.nil ?_
            refine W.test rfl hm0 ?_ ?_
            · intro hb168 hm0
              refine W.seq ?_
              refine W.region ?_
              refine WL.val (x_fa rfl fo34_3) ?_
              obtain ⟨cs169, hr170, hc171⟩ := lSwitchboardlaw23Net_back.part _ _ _ h1_
              obtain ⟨A172, c173, rfl, h174⟩ := hr170
              refine WL.val (x_ld 0 (.slice A172 p0.back.length c173) hO rfl rfl (hc171 0 _ rfl) one31) ?_
              refine WL.val (x_len rfl Try.underlying31) ?_
              refine WL.val (x_gtr rfl rfl) ?_
              refine WL.nil ?_
              refine W.test rfl hm0 ?_ ?_
              · intro hb175 hm0
                refine W.draw (SD w0 H0 [] H0 [(0, .blk g1 cs1_ 34), (1, .blk g3 zc34 34)]) (fun i => ([9] : List Nat).contains i) mixed 10 rfl _ rfl ?_
                intro w176 hh1 hh2 hh3 hh4; have hO := hO.same hh1 hh2 hh3 hh4; clear hh1 hh2 hh3 hh4
                have hS : SD w0 H0 [] H0 [(0, .blk g1 cs1_ 34), (1, .blk g3 zc34 34)] w176 := ⟨_, _, Le.refl _, hO, ⟨rfl, rfl, trivial⟩⟩
                refine WA.take (i := 0) rfl (by kernel_rfl) (fun w hS => x_fa rfl fo34_3) hS ?_
                obtain ⟨cs177, hr178, hc179⟩ := lSwitchboardlaw23Net_back.part _ _ _ h1_
                obtain ⟨A180, c181, rfl, h182⟩ := hr178
                refine WA.take (i := 1) rfl (by kernel_rfl) (fun w hS => x_ldD 0 (.slice A180 p0.back.length c181) hS rfl rfl (hc179 0 _ rfl) one31) hS ?_
                refine WA.take (i := 2) rfl (by kernel_rfl) (fun w hS => x_move (.int .i64 p2) rfl) hS ?_
                refine WA.take (i := 3) rfl (by kernel_rfl) (fun w hS => x_fa rfl fo34_3) hS ?_
                obtain ⟨cs183, hr184, hc185⟩ := lSwitchboardlaw23Net_back.part _ _ _ h1_
                obtain ⟨A186, c187, rfl, h188⟩ := hr184
                refine WA.take (i := 4) rfl (by kernel_rfl) (fun w hS => x_ldD 0 (.slice A186 p0.back.length c187) hS rfl rfl (hc185 0 _ rfl) one31) hS ?_
                refine WA.take (i := 5) rfl (by kernel_rfl) (fun w hS => x_len rfl Try.underlying31) hS ?_
                obtain ⟨hz189, hm0⟩ := chk hm0
                refine WA.take (i := 6) rfl (by kernel_rfl) (fun w hS => x_rem rfl rfl (nz hz189)) hS ?_
                refine WA.only (i := 7) (by kernel_rfl) rfl ?_
                obtain ⟨t190, ht191, hm0⟩ := bindSome hm0
                refine o_call hO go11 (switchboardref08_Without_ok hO.sub h182 ht191) rfl ?_
                rintro _ H192 w193 le194 ⟨A195, c196, rfl, h197⟩ hO
                have hS : SD w0 H0 [] H0 [(0, .blk g1 cs1_ 34), (1, .blk g3 zc34 34)] _ := ⟨_, _, le194, hO, ⟨rfl, rfl, trivial⟩⟩
                refine WL.nil ⟨fun _ => hS, ?_⟩
                refine WA.take (i := 8) rfl (by kernel_rfl) (fun w hS => x_fa rfl fo34_3) hS ?_
                refine WA.only (i := 9) (by kernel_rfl) rfl ?_
                refine o_stP 0 (.slice A195 t190.length c196) hO rfl (Enc.mono _ le194 h1_) lSwitchboardlaw23Net_back rfl rfl rfl ⟨A195, c196, rfl, h197⟩ siz31 ?_
                intro cs198 w199 (hr200 : Enc.rep eSwitchboardlaw23Net H192 cs198 ({ p0 with back := t190 } : Switchboardlaw23Net)) hO
                refine WL.nil ⟨fun h => absurd h (by decide), ?_⟩
                refine WA.done (by kernel_rfl) ?_
                refine W.seq ?_
                refine W.region ?_
                refine WL.val (x_lds 0 cs198 hO rfl rfl agg34 (whole_take (rep_len hr200 rfl)) (rep_len hr200 rfl)) ?_
                refine o_stP 1 (.agg cs198.toArray) hO rfl (zr34 _) (Lens.refl _) rfl rfl rfl hr200 siz34 ?_
                intro cs201 w202 (hr203 : Enc.rep eSwitchboardlaw23Net H192 cs201 ({ p0 with back := t190 } : Switchboardlaw23Net)) hO
                refine WL.nil ?_
                refine W.ret ?_
                obtain rfl := Option.some.inj hm0
                exact ⟨[(.agg cs201.toArray)], ⟨⟨_, rfl, hO.ldBlk 1 rfl agg34 (whole_take (rep_len hr203 rfl)) (rep_len hr203 rfl)⟩, trivial⟩, H192, _, ⟨cs201, rfl, hr203⟩, hO⟩
              · intro hb175 hm0
                refine W.skip ?_
                refine W.seq ?_
                refine W.region ?_
                refine WL.val (x_lds 0 cs1_ hO rfl rfl agg34 (whole_take (rep_len h1_ rfl)) (rep_len h1_ rfl)) ?_
                refine o_stP 1 (.agg cs1_.toArray) hO rfl (zr34 _) (Lens.refl _) rfl rfl rfl h1_ siz34 ?_
                intro cs204 w205 (hr206 : Enc.rep eSwitchboardlaw23Net H0 cs204 p0) hO
                refine WL.nil ?_
                refine W.ret ?_
                obtain rfl := Option.some.inj hm0
                exact ⟨[(.agg cs204.toArray)], ⟨⟨_, rfl, hO.ldBlk 1 rfl agg34 (whole_take (rep_len hr206 rfl)) (rep_len hr206 rfl)⟩, trivial⟩, H0, _, ⟨cs204, rfl, hr206⟩, hO⟩
            · intro hb168 hm0
              refine W.seq ?_
              refine W.region ?_
              refine WL.val (x_eql rfl rfl) ?_
              refine WL.val (x_assign (.bool (p1 == 6)) rfl) ?_
              refine WL.nil ?_
              refine W.test rfl hm0 ?_ ?_
              · intro hb207 hm0
                refine W.seq ?_
                refine W.region ?_
                refine WL.val (x_fa rfl fo34_2) ?_
                obtain ⟨cs208, hr209, hc210⟩ := lSwitchboardlaw23Net_there.part _ _ _ h1_
                obtain ⟨A211, c212, rfl, h213⟩ := hr209
                refine WL.val (x_ld 0 (.slice A211 p0.there.length c212) hO rfl rfl (hc210 0 _ rfl) one31) ?_
                refine WL.val (x_len rfl Try.underlying31) ?_
                refine WL.val (x_lss rfl rfl) ?_
                refine WL.nil ?_
                refine W.test rfl hm0 ?_ ?_
                · intro hb214 hm0
                  refine W.draw (SD w0 H0 [] H0 [(0, .blk g1 cs1_ 34), (1, .blk g3 zc34 34)]) (fun i => ([9] : List Nat).contains i) mixed 10 rfl _ rfl ?_
                  intro w215 hh1 hh2 hh3 hh4; have hO := hO.same hh1 hh2 hh3 hh4; clear hh1 hh2 hh3 hh4
                  have hS : SD w0 H0 [] H0 [(0, .blk g1 cs1_ 34), (1, .blk g3 zc34 34)] w215 := ⟨_, _, Le.refl _, hO, ⟨rfl, rfl, trivial⟩⟩
                  refine WA.take (i := 1) rfl (by kernel_rfl) (fun w hS => x_fa rfl fo34_2) hS ?_
                  obtain ⟨cs216, hr217, hc218⟩ := lSwitchboardlaw23Net_there.part _ _ _ h1_
                  obtain ⟨A219, c220, rfl, h221⟩ := hr217
                  refine WA.take (i := 2) rfl (by kernel_rfl) (fun w hS => x_ldD 0 (.slice A219 p0.there.length c220) hS rfl rfl (hc218 0 _ rfl) one31) hS ?_
                  refine WA.take (i := 4) rfl (by kernel_rfl) (fun w hS => x_fa rfl fo34_0) hS ?_
                  obtain ⟨cs222, hr223, hc224⟩ := lSwitchboardlaw23Net_a.part _ _ _ h1_
                  obtain ⟨A225, c226, A228, c229, rfl, h227, h230⟩ := hr223
                  refine WA.take (i := 5) rfl (by kernel_rfl) (fun w hS => x_ldsD 0 [(.int .i64 p0.a.Link.Next), (.slice A225 p0.a.Link.Queue.length c226), (.int .i64 p0.a.Window.Low), (.slice A228 p0.a.Window.Seen.length c229)] hS rfl rfl agg30 (take_of_part hc224 rfl) rfl) hS ?_
                  refine WA.only (i := 0) (by kernel_rfl) rfl ?_
                  refine o_litT (en := eStr) 11 [] ([] : List Str) hO sli31 trivial rfl rfl rfl ?_
                  intro g231 cs232 w233 hr234 hO
                  have hS : SD w0 H0 [] H0 [(0, .blk g1 cs1_ 34), (1, .blk g3 zc34 34)] _ := ⟨_, _, (Le.refl _), hO, ⟨rfl, rfl, trivial⟩⟩
                  refine WL.nil ⟨fun _ => hS, ?_⟩
                  refine WA.only (i := 3) (by kernel_rfl) rfl ?_
                  obtain ⟨cs235, hs236, hr237⟩ := RS.src h221 hO
                  refine o_appT (en := eStr) (xs := ([] : List Str)) (ys := p0.there) 11 hO rfl hr234 rfl rfl hs236 hr237 sli31 rfl rfl Try.underlying31 hm0 ?_
                  intro A238 c239 cs240 w241 hr242 hO hm0
                  have hS : SD w0 H0 [] H0 [(0, .blk g1 cs1_ 34), (1, .blk g3 zc34 34)] _ := ⟨_, _, (Le.refl _), hO, ⟨rfl, rfl, trivial⟩⟩
                  refine WL.nil ⟨fun _ => hS, ?_⟩
                  refine WA.only (i := 6) (by kernel_rfl) rfl ?_
                  obtain ⟨t243, ht244, hm0⟩ := bindSome hm0
                  refine o_call hO go6 (port_Again_ok hO.sub h227 h230 ht244) rfl ?_
                  rintro _ H245 w246 le247 ⟨A248, c249, rfl, h250⟩ hO
                  have hS : SD w0 H0 [] H0 [(0, .blk g1 cs1_ 34), (1, .blk g3 zc34 34)] _ := ⟨_, _, le247, hO, ⟨rfl, rfl, trivial⟩⟩
                  refine WL.nil ⟨fun _ => hS, ?_⟩
                  refine WA.only (i := 7) (by kernel_rfl) rfl ?_
                  obtain ⟨cs251, hs252, hr253⟩ := RS.src h250 hO
                  refine o_appT (en := eStr) (xs := (([] : List Str) ++ p0.there)) (ys := t243) 11 hO rfl (hr242.up le247) rfl rfl hs252 hr253 sli31 rfl rfl Try.underlying31 hm0 ?_
                  intro A254 c255 cs256 w257 hr258 hO hm0
                  have hS : SD w0 H0 [] H0 [(0, .blk g1 cs1_ 34), (1, .blk g3 zc34 34)] _ := ⟨_, _, le247, hO, ⟨rfl, rfl, trivial⟩⟩
                  refine WL.nil ⟨fun _ => hS, ?_⟩
                  refine WA.take (i := 8) rfl (by kernel_rfl) (fun w hS => x_fa rfl fo34_2) hS ?_
                  refine WA.only (i := 9) (by kernel_rfl) rfl ?_
                  obtain ⟨H259, le260, h261, hO⟩ := hO.freezeRow (en := eStr) 11 rfl rfl rfl hr258
                  refine o_stP 0 (.slice A254 ((([] : List Str) ++ p0.there) ++ t243).length c255) hO rfl (Enc.mono _ (le247.trans le260) h1_) lSwitchboardlaw23Net_there rfl rfl rfl ⟨A254, c255, rfl, h261⟩ siz31 ?_
                  intro cs262 w263 (hr264 : Enc.rep eSwitchboardlaw23Net H259 cs262 ({ p0 with there := ((([] : List Str) ++ p0.there) ++ t243) } : Switchboardlaw23Net)) hO
                  refine WL.nil ⟨fun h => absurd h (by decide), ?_⟩
                  refine WA.done (by kernel_rfl) ?_
                  refine W.seq ?_
                  refine W.region ?_
                  refine WL.val (x_lds 0 cs262 hO rfl rfl agg34 (whole_take (rep_len hr264 rfl)) (rep_len hr264 rfl)) ?_
                  refine o_stP 1 (.agg cs262.toArray) hO rfl (zr34 _) (Lens.refl _) rfl rfl rfl hr264 siz34 ?_
                  intro cs265 w266 (hr267 : Enc.rep eSwitchboardlaw23Net H259 cs265 ({ p0 with there := ((([] : List Str) ++ p0.there) ++ t243) } : Switchboardlaw23Net)) hO
                  refine WL.nil ?_
                  refine W.ret ?_
                  obtain rfl := Option.some.inj hm0
                  exact ⟨[(.agg cs265.toArray)], ⟨⟨_, rfl, hO.ldBlk 1 rfl agg34 (whole_take (rep_len hr267 rfl)) (rep_len hr267 rfl)⟩, trivial⟩, H259, _, ⟨cs265, rfl, hr267⟩, hO⟩
                · intro hb214 hm0
                  refine W.skip ?_
                  refine W.seq ?_
                  refine W.region ?_
                  refine WL.val (x_lds 0 cs1_ hO rfl rfl agg34 (whole_take (rep_len h1_ rfl)) (rep_len h1_ rfl)) ?_
                  refine o_stP 1 (.agg cs1_.toArray) hO rfl (zr34 _) (Lens.refl _) rfl rfl rfl h1_ siz34 ?_
                  intro cs268 w269 (hr270 : Enc.rep eSwitchboardlaw23Net H0 cs268 p0) hO
                  refine WL.nil ?_
                  refine W.ret ?_
                  obtain rfl := Option.some.inj hm0
                  exact ⟨[(.agg cs268.toArray)], ⟨⟨_, rfl, hO.ldBlk 1 rfl agg34 (whole_take (rep_len hr270 rfl)) (rep_len hr270 rfl)⟩, trivial⟩, H0, _, ⟨cs268, rfl, hr270⟩, hO⟩
              · intro hb207 hm0
                refine W.skip ?_
                refine W.seq ?_
                refine W.region ?_
                refine WL.val (x_lds 0 cs1_ hO rfl rfl agg34 (whole_take (rep_len h1_ rfl)) (rep_len h1_ rfl)) ?_
                refine o_stP 1 (.agg cs1_.toArray) hO rfl (zr34 _) (Lens.refl _) rfl rfl rfl h1_ siz34 ?_
                intro cs271 w272 (hr273 : Enc.rep eSwitchboardlaw23Net H0 cs271 p0) hO
                refine WL.nil ?_
                refine W.ret ?_
                obtain rfl := Option.some.inj hm0
                exact ⟨[(.agg cs271.toArray)], ⟨⟨_, rfl, hO.ldBlk 1 rfl agg34 (whole_take (rep_len hr273 rfl)) (rep_len hr273 rfl)⟩, trivial⟩, H0, _, ⟨cs271, rfl, hr273⟩, hO⟩

end Go.Sw

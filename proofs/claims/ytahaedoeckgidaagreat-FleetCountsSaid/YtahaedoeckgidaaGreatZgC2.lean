/- The calls compute the mirrors. -/
import Derived.Test.YtahaedoeckgidaaGreatZgF
import Derived.Test.YtahaedoeckgidaaGreatZgC1
set_option linter.unusedVariables false
set_option linter.unusedSimpArgs false
set_option maxRecDepth 100000
namespace Go.Sw
open WL (val nil gval yes no)
open W (region test seq skip)
open WA (take)
open Go.Proofs.Tryz
open Go.Proofs
theorem slices_ContainsFunc__int_mat_Right_1_ok {w0 : World} {H0 : IHeap} (hS : Sub H0 w0) {p0 : List (List Int)} {q1_0 : Int}  {A1_ : Option Addr} {c1_ : Nat} {a2_ : Addr} (h1_ : RS (eSl (eInt .i64)) H0 A1_ c1_ p0) (h2_ : At (eInt .i64) H0 a2_ q1_0) {res : Bool} (hm0 : slices_ContainsFunc__int_mat_Right_1 p0 q1_0 = some res) :
  Ok prog 75 [(.slice A1_ p0.length c1_), (.func (.func 138) #[] #[(.pointer (some a2_))])].toArray w0 H0 (fun H' v => v = (.bool res)) := by
 unfold slices_ContainsFunc__int_mat_Right_1 at hm0
 refine ok_of_W Tryz.func75 rfl Tryz.ntmps75 (ts := [4]) rfl rfl rfl ?_
 have hO := St.start hS
 refine seq (region (val (x_assign (.bool false) rfl) ?_))
 refine nil (seq (region (val (x_move (.slice A1_ p0.length c1_) rfl) ?_)))
 refine val (x_move (.func (.func 138) #[] #[(.pointer (some a2_))]) rfl) ?_
 obtain ⟨t1, ht2, hm0⟩ := bindSome hm0
 refine o_call hO go121 (slices_IndexFunc__int_mat_Right_1_ok hO.sub h1_ h2_ ht2) rfl ?_
 rintro _ H3 w4 le5 rfl hO
 refine val (x_geq rfl rfl) ?_
 refine val (x_assign (.bool (decide (0 ≤ t1))) rfl) ?_
 refine nil (W.ret ?_)
 obtain rfl := sj hm0
 exact ⟨H3, rfl, hO.done⟩
theorem mat_Right_ok {w0 : World} {H0 : IHeap} (hS : Sub H0 w0) {p0 : List (List Int)} {p1 : Int} {p2 : Int}  {A1_ : Option Addr} {c1_ : Nat} (h1_ : RS (eSl (eInt .i64)) H0 A1_ c1_ p0) {res : Bool} (hm0 : mat_Right p0 p1 p2 = some res) :
  Ok prog 104 [(.slice A1_ p0.length c1_), (.int .i64 p1), (.int .i64 p2)].toArray w0 H0 (fun H' v => v = (.bool res)) := by
 unfold mat_Right at hm0
 refine ok_of_W Tryz.func104 rfl Tryz.ntmps104 (ts := [6]) rfl rfl rfl ?_
 have hO := St.start hS
 refine seq (region (o_box 0 [(.int .i64 p2)] hO rfl ?_))
 intro g1 w2 hO
 refine val (x_assign (.bool false) rfl) ?_
 refine nil (seq (region (val (x_move (.slice A1_ p0.length c1_) rfl) ?_)))
 refine val (x_len rfl underlying25) ?_
 refine val (x_move (.int .i64 p1) rfl) ?_
 refine val (x_eql rfl rfl) ?_
 refine val (x_move (.bool ((p0.length : Int) == p1)) rfl) ?_
 refine gval rfl rfl (fun hb => x_move (.slice A1_ p0.length c1_) rfl) ?_
 rcases btest hm0 with ⟨hb3, hm0⟩ | ⟨hb3, hm0⟩
 ·obtain ⟨H4, le5, h6, hO⟩ := hO.freezeBlk (en := (eInt .i64)) (x := p2) 0 rfl rfl
  refine yes rfl (kb rfl hb3) ?_
  refine val (x_fun [(.pointer (some (⟨g1, 0, none⟩)))] rfl) ?_
  refine yes rfl (kb rfl hb3) ?_
  obtain ⟨t7, ht8, hm0⟩ := bindSome hm0
  refine o_call hO go75 (slices_ContainsFunc__int_mat_Right_1_ok hO.sub (h1_.up le5) h6 ht8) (args2 (by exact gkT hb3) rfl) ?_
  rintro _ H9 w10 le11 rfl hO
  refine yes rfl (kb rfl hb3) ?_
  refine val (x_not rfl) ?_
  refine val (x_pick_t (kb rfl hb3) (.bool (!t7)) rfl) ?_
  refine val (x_assign (.bool (!t7)) rfl) ?_
  refine nil (W.ret ?_)
  obtain rfl := sj hm0
  exact ⟨H9, rfl, hO.done⟩
 ·refine no rfl (kb rfl hb3) rfl ?_
  refine no rfl (kb rfl hb3) rfl ?_
  refine no rfl (kb rfl hb3) rfl ?_
  refine val (x_pick_f (kb rfl hb3) (.bool false) rfl) ?_
  refine val (x_assign (.bool false) rfl) ?_
  refine nil (W.ret ?_)
  obtain rfl := sj hm0
  exact ⟨H0, rfl, hO.done⟩
theorem expert_Right_ok {w0 : World} {H0 : IHeap} (hS : Sub H0 w0) {p0 : ApiExpert} {p1 : Int}  {A1_ : Option Addr} {c1_ : Nat} {A2_ : Option Addr} {c2_ : Nat} (h1_ : RS (eSl (eInt .i64)) H0 A1_ c1_ p0.In) (h2_ : RS (eSl (eInt .i64)) H0 A2_ c2_ p0.Out) {res : Bool} (hm0 : expert_Right p0 p1 = some res) :
  Ok prog 55 [(.agg #[(.slice A1_ p0.In.length c1_), (.slice A2_ p0.Out.length c2_)]), (.int .i64 p1)].toArray w0 H0 (fun H' v => v = (.bool res)) := by
 unfold expert_Right at hm0
 refine ok_of_W Tryz.func55 rfl Tryz.ntmps55 (ts := [4]) rfl rfl rfl ?_
 have hO := St.start hS
 refine seq (region (o_box 0 [(.slice A1_ p0.In.length c1_), (.slice A2_ p0.Out.length c2_)] hO rfl ?_))
 intro g1 w2 hO
 refine val (x_assign (.bool false) rfl) ?_
 refine nil (seq (region (val (x_fa rfl fo50_0) ?_)))
 refine val (x_ld 0 (.slice A1_ p0.In.length c1_) hO rfl rfl rfl one25) ?_
 refine val (x_len rfl underlying25) ?_
 refine val (x_assign (.int .i64 (p0.In.length : Int)) rfl) ?_
 refine nil (seq (region (val (x_move (.int .i64 p1) rfl) ?_)))
 refine val (x_geq rfl rfl) ?_
 refine val (x_move (.bool (decide (1 ≤ p1))) rfl) ?_
 refine gval rfl rfl (fun hb => x_move (.int .i64 p1) rfl) ?_
 refine gval rfl rfl (fun hb => x_leq (gv hb) rfl) ?_
 refine val (x_pick rfl (.bool ((decide (1 ≤ p1)) && (decide (p1 ≤ 8)))) pick_and) ?_
 refine val (x_move (.bool ((decide (1 ≤ p1)) && (decide (p1 ≤ 8)))) rfl) ?_
 refine gval rfl rfl (fun hb => x_move (.int .i64 (p0.In.length : Int)) rfl) ?_
 refine gval rfl rfl (fun hb => x_geq (gv hb) rfl) ?_
 refine val (x_pick rfl (.bool (((decide (1 ≤ p1)) && (decide (p1 ≤ 8))) && (decide (1 ≤ (p0.In.length : Int))))) pick_and) ?_
 refine val (x_move (.bool (((decide (1 ≤ p1)) && (decide (p1 ≤ 8))) && (decide (1 ≤ (p0.In.length : Int))))) rfl) ?_
 refine gval rfl rfl (fun hb => x_move (.int .i64 (p0.In.length : Int)) rfl) ?_
 refine gval rfl rfl (fun hb => x_leq (gv hb) rfl) ?_
 refine val (x_pick rfl (.bool ((((decide (1 ≤ p1)) && (decide (p1 ≤ 8))) && (decide (1 ≤ (p0.In.length : Int)))) && (decide ((p0.In.length : Int) ≤ 8)))) pick_and) ?_
 refine val (x_move (.bool ((((decide (1 ≤ p1)) && (decide (p1 ≤ 8))) && (decide (1 ≤ (p0.In.length : Int)))) && (decide ((p0.In.length : Int) ≤ 8)))) rfl) ?_
 refine gval rfl rfl (fun hb => x_fa rfl fo50_0) ?_
 refine gval rfl rfl (fun hb => x_ld 0 (.slice A1_ p0.In.length c1_) hO rfl (gv hb) rfl one25) ?_
 refine gval rfl rfl (fun hb => x_move (.int .i64 (p0.In.length : Int)) rfl) ?_
 refine gval rfl rfl (fun hb => x_move (.int .i64 p1) rfl) ?_
 rcases btest hm0 with ⟨hb3, hm0⟩ | ⟨hb3, hm0⟩
 ·refine yes rfl (kb rfl hb3) ?_
  obtain ⟨t4, ht5, hm0⟩ := bindSome hm0
  refine o_call hO go104 (mat_Right_ok hO.sub h1_ ht5) (args3 (by exact gkT hb3) (by exact gkT hb3) (by exact gkT hb3)) ?_
  rintro _ H6 w7 le8 rfl hO
  refine val (x_pick_t (kb rfl hb3) (.bool t4) rfl) ?_
  refine val (x_move (.bool t4) rfl) ?_
  refine gval rfl rfl (fun hb => x_fa rfl fo50_1) ?_
  refine gval rfl rfl (fun hb => x_ld 0 (.slice A2_ p0.Out.length c2_) hO rfl (gv hb) rfl one25) ?_
  refine gval rfl rfl (fun hb => x_move (.int .i64 p1) rfl) ?_
  refine gval rfl rfl (fun hb => x_move (.int .i64 (p0.In.length : Int)) rfl) ?_
  rcases btest hm0 with ⟨hb9, hm0⟩ | ⟨hb9, hm0⟩
  ·refine yes rfl (kb rfl hb9) ?_
   obtain ⟨t10, ht11, hm0⟩ := bindSome hm0
   refine o_call hO go104 (mat_Right_ok hO.sub (h2_.up le8) ht11) (args3 (by exact gkT hb9) (by exact gkT hb9) (by exact gkT hb9)) ?_
   rintro _ H12 w13 le14 rfl hO
   refine val (x_pick_t (kb rfl hb9) (.bool t10) rfl) ?_
   refine val (x_assign (.bool t10) rfl) ?_
   refine nil (W.ret ?_)
   obtain rfl := sj hm0
   exact ⟨H12, rfl, hO.done⟩
  ·refine no rfl (kb rfl hb9) rfl ?_
   refine val (x_pick_f (kb rfl hb9) (.bool false) rfl) ?_
   refine val (x_assign (.bool false) rfl) ?_
   refine nil (W.ret ?_)
   obtain rfl := sj hm0
   exact ⟨H6, rfl, hO.done⟩
 ·refine no rfl (kb rfl hb3) rfl ?_
  refine val (x_pick_f (kb rfl hb3) (.bool false) rfl) ?_
  refine val (x_move (.bool false) rfl) ?_
  refine no rfl rfl rfl ?_
  refine no rfl rfl rfl ?_
  refine no rfl rfl rfl ?_
  refine no rfl rfl rfl ?_
  refine no rfl rfl rfl ?_
  refine val (x_pick_f rfl (.bool false) rfl) ?_
  refine val (x_assign (.bool false) rfl) ?_
  refine nil (W.ret ?_)
  obtain rfl := sj hm0
  exact ⟨H0, rfl, hO.done⟩
theorem model_layer_1_ok {w0 : World} {H0 : IHeap} (hS : Sub H0 w0) {p0 : ApiExpert} {q_0 : Int}  {A1_ : Option Addr} {c1_ : Nat} {A2_ : Option Addr} {c2_ : Nat} {a3_ : Addr} (h1_ : RS (eSl (eInt .i64)) H0 A1_ c1_ p0.In) (h2_ : RS (eSl (eInt .i64)) H0 A2_ c2_ p0.Out) (h3_ : At (eInt .i64) H0 a3_ q_0) {res : Bool} (hm0 : model_layer_1 p0 q_0 = some res) :
  Ok prog 120 [(.agg #[(.slice A1_ p0.In.length c1_), (.slice A2_ p0.Out.length c2_)]), (.pointer (some a3_))].toArray w0 H0 (fun H' v => v = (.bool res)) := by
 unfold model_layer_1 at hm0
 refine ok_of_W Tryz.func120 rfl Tryz.ntmps120 (ts := [3]) rfl rfl rfl ?_
 have hO := St.start hS
 refine seq (region (o_box 0 [(.slice A1_ p0.In.length c1_), (.slice A2_ p0.Out.length c2_)] hO rfl ?_))
 intro g1 w2 hO
 refine val (x_assign (.bool false) rfl) ?_
 refine nil (seq (region (val (x_lds 0 [(.slice A1_ p0.In.length c1_), (.slice A2_ p0.Out.length c2_)] hO rfl rfl agg50 rfl rfl) ?_)))
 refine val (x_ldc rfl (h3_.int _ hO.sub) one3) ?_
 obtain ⟨t3, ht4, hm0⟩ := bindSome hm0
 refine o_call hO go55 (expert_Right_ok hO.sub h1_ h2_ ht4) rfl ?_
 rintro _ H5 w6 le7 rfl hO
 refine val (x_not rfl) ?_
 refine val (x_assign (.bool (!t3)) rfl) ?_
 refine nil (W.ret ?_)
 obtain rfl := sj hm0
 exact ⟨H5, rfl, hO.done⟩
theorem slices_IndexFunc_api_Expert_model_layer_1_ok {w0 : World} {H0 : IHeap} (hS : Sub H0 w0) {p0 : List ApiExpert} {q1_0 : Int}  {A1_ : Option Addr} {c1_ : Nat} {a2_ : Addr} (h1_ : RS eApiExpert H0 A1_ c1_ p0) (h2_ : At (eInt .i64) H0 a2_ q1_0) {res : Int} (hm0 : slices_IndexFunc_api_Expert_model_layer_1 p0 q1_0 = some res) :
  Ok prog 150 [(.slice A1_ p0.length c1_), (.func (.func 120) #[] #[(.pointer (some a2_))])].toArray w0 H0 (fun H' v => v = (.int .i64 res)) := by
 unfold slices_IndexFunc_api_Expert_model_layer_1 at hm0
 refine ok_of_W Tryz.func150 rfl Tryz.ntmps150 (ts := [4]) rfl rfl rfl ?_
 have hO := St.start hS
 refine seq (region (val (x_assign (.int .i64 0) rfl) ?_))
 refine nil (seq (seq (region (val (x_move (.slice A1_ p0.length c1_) rfl) ?_))))
 refine val (x_len rfl underlying39) ?_
 refine val (x_move (.int .i64 0) rfl) ?_
 refine nil ?_
 obtain ⟨o1, hm1, hm0⟩ := bindSome hm0
 have hO := hO.pick [] trivial
 refine W.blockLoop (fun r w => ∃ (i4 : Nat) (H2 : IHeap), .out () = o1 ∧ Le H0 H2 ∧ St w0 H0 [] H2 (ol []) w) (fun k r w => ∃ (i4 : Nat) (rest5 : List ApiExpert) (H2 : IHeap), k = rest5.length ∧ List.drop i4 p0 = rest5 ∧ slices_IndexFunc_api_Expert_model_layer_1_l1 q1_0 rest5 i4 = some o1 ∧ Le H0 H2 ∧ St w0 H0 [] H2 (ol []) w ∧ r 0 = (.slice A1_ p0.length c1_) ∧ r 1 = (.func (.func 120) #[] #[(.pointer (some a2_))]) ∧ r 7 = (.int .i64 (p0.length : Int)) ∧ r 8 = (.int .i64 (i4 : Int))) (List.length p0) ?_ ?_ ?_
 ·exact ⟨0, _, _, rfl, rfl, hm1, Le.refl _, hO, rfl, rfl, rfl, rfl⟩
 ·
  intro k r w
  rintro ⟨i4, rest5, H2, rfl, hd7, hm1, le3, hO, f0_1, f1_1, f7_1, f8_1⟩
  cases rest5 with
  | nil =>
   rw [slices_IndexFunc_api_Expert_model_layer_1_l1] at hm1
   have hlt := drop_nil hd7
   refine seq (region (val (x_lss f8_1 f7_1) ?_))
   refine nil (seq (W.cond_f (kb rfl hlt) ?_))
   refine W.exit _ rfl ?_
   obtain rfl := sj hm1
   exact ⟨i4, H2, rfl, le3, hO.pick _ trivial⟩
  | cons x6 rest5 =>
   rw [slices_IndexFunc_api_Expert_model_layer_1_l1] at hm1
   have hlt := drop_lt hd7
   have hnx := drop_next hd7
   have hinc := inc_len hlt h1_.1 h1_.2.1
   refine seq (region (val (x_lss f8_1 f7_1) ?_))
   refine nil (seq (W.cond_t (kb rfl hlt) ?_))
   refine skip (seq (W.block ?_))
   refine seq (region (val (x_move (.int .i64 (i4 : Int)) f8_1) ?_))
   refine val (x_assign (.int .i64 (i4 : Int)) rfl) ?_
   refine nil (seq (region (val (x_move (.func (.func 120) #[] #[(.pointer (some a2_))]) f1_1) ?_)))
   refine val (x_move (.slice A1_ p0.length c1_) f0_1) ?_
   refine val (x_move (.int .i64 (i4 : Int)) rfl) ?_
   obtain ⟨a8, h9, hA10, hin⟩ := RS.atR (h1_.up le3) hd7
   refine val (x_ia (sA rfl hA10) rfl sle39 hin) ?_
   obtain ⟨cs11, hr12, hc13⟩ := At.agg h9
   obtain ⟨A14, c15, A17, c18, rfl, h16, h19⟩ := hr12
   refine val (x_ldv rfl (hc13 _ _ _ hO.sub agg50)) ?_
   obtain ⟨t20, ht21, hm1⟩ := bindSome hm1
   refine o_callv (args := [(.agg #[(.slice A14 x6.In.length c15), (.slice A17 x6.Out.length c18)])]) (caps := [(.pointer (some a2_))]) hO rfl go120 (model_layer_1_ok hO.sub h16 h19 (h2_.up le3) ht21) rfl ?_
   rintro _ H22 w23 le24 rfl hO
   refine nil (test rfl hm1 ?_ ?_)
   ·intro hb25 hm1
    refine seq (region (val (x_move (.int .i64 (i4 : Int)) rfl) ?_))
    refine val (x_assign (.int .i64 (i4 : Int)) rfl) ?_
    refine nil (W.ret ?_)
    obtain rfl := sj hm1
    dsimp only at hm0
    obtain rfl := sj hm0
    exact ⟨H22, rfl, hO.done⟩
   ·intro hb25 hm1
    refine skip (region (val (x_add f8_1 rfl) ?_))
    refine val (x_move (.int .i64 (i64w ((i4 : Int) + 1))) rfl) ?_
    refine nil ?_
    exact ⟨_, Nat.lt_succ_self _, i4 + 1, rest5, H22, rfl, hnx, hm1, (le3.trans le24), hO.pick _ trivial, f0_1, f1_1, f7_1, (incv hinc)⟩
 ·intro r w
  rintro ⟨i28, H26, rfl, le27, hO⟩
  dsimp only at hm0
  refine seq (region (val (x_assign (.int .i64 (-1)) rfl) ?_))
  refine nil (W.ret ?_)
  obtain rfl := sj hm0
  exact ⟨H26, rfl, hO.done⟩
theorem slices_ContainsFunc_api_Expert_model_layer_1_ok {w0 : World} {H0 : IHeap} (hS : Sub H0 w0) {p0 : List ApiExpert} {q1_0 : Int}  {A1_ : Option Addr} {c1_ : Nat} {a2_ : Addr} (h1_ : RS eApiExpert H0 A1_ c1_ p0) (h2_ : At (eInt .i64) H0 a2_ q1_0) {res : Bool} (hm0 : slices_ContainsFunc_api_Expert_model_layer_1 p0 q1_0 = some res) :
  Ok prog 119 [(.slice A1_ p0.length c1_), (.func (.func 120) #[] #[(.pointer (some a2_))])].toArray w0 H0 (fun H' v => v = (.bool res)) := by
 unfold slices_ContainsFunc_api_Expert_model_layer_1 at hm0
 refine ok_of_W Tryz.func119 rfl Tryz.ntmps119 (ts := [4]) rfl rfl rfl ?_
 have hO := St.start hS
 refine seq (region (val (x_assign (.bool false) rfl) ?_))
 refine nil (seq (region (val (x_move (.slice A1_ p0.length c1_) rfl) ?_)))
 refine val (x_move (.func (.func 120) #[] #[(.pointer (some a2_))]) rfl) ?_
 obtain ⟨t1, ht2, hm0⟩ := bindSome hm0
 refine o_call hO go150 (slices_IndexFunc_api_Expert_model_layer_1_ok hO.sub h1_ h2_ ht2) rfl ?_
 rintro _ H3 w4 le5 rfl hO
 refine val (x_geq rfl rfl) ?_
 refine val (x_assign (.bool (decide (0 ≤ t1))) rfl) ?_
 refine nil (W.ret ?_)
 obtain rfl := sj hm0
 exact ⟨H3, rfl, hO.done⟩
theorem model_layer_ok {w0 : World} {H0 : IHeap} (hS : Sub H0 w0) {p0 : ApiLayer} {p1 : Int}  {A1_ : Option Addr} {c1_ : Nat} {A2_ : Option Addr} {c2_ : Nat} (h1_ : RS (eSl (eInt .i64)) H0 A1_ c1_ p0.Gate) (h2_ : RS eApiExpert H0 A2_ c2_ p0.Experts) {res : Bool} (hm0 : model_layer p0 p1 = some res) :
  Ok prog 74 [(.agg #[(.slice A1_ p0.Gate.length c1_), (.slice A2_ p0.Experts.length c2_), (.int .i64 p0.Capacity)]), (.int .i64 p1)].toArray w0 H0 (fun H' v => v = (.bool res)) := by
 unfold model_layer at hm0
 refine ok_of_W Tryz.func74 rfl Tryz.ntmps74 (ts := [4]) rfl rfl rfl ?_
 have hO := St.start hS
 refine seq (region (o_box 0 [(.slice A1_ p0.Gate.length c1_), (.slice A2_ p0.Experts.length c2_), (.int .i64 p0.Capacity)] hO rfl ?_))
 intro g1 w2 hO
 refine o_box 1 [(.int .i64 p1)] hO rfl ?_
 intro g3 w4 hO
 refine val (x_assign (.bool false) rfl) ?_
 refine nil (seq (region (val (x_fa rfl fo41_1) ?_)))
 refine val (x_ld 0 (.slice A2_ p0.Experts.length c2_) hO rfl rfl rfl one39) ?_
 refine val (x_len rfl underlying39) ?_
 refine val (x_assign (.int .i64 (p0.Experts.length : Int)) rfl) ?_
 refine nil (seq (region (val (x_move (.int .i64 (p0.Experts.length : Int)) rfl) ?_)))
 refine val (x_geq rfl rfl) ?_
 refine val (x_move (.bool (decide (1 ≤ (p0.Experts.length : Int)))) rfl) ?_
 refine gval rfl rfl (fun hb => x_move (.int .i64 (p0.Experts.length : Int)) rfl) ?_
 refine gval rfl rfl (fun hb => x_leq (gv hb) rfl) ?_
 refine val (x_pick rfl (.bool ((decide (1 ≤ (p0.Experts.length : Int))) && (decide ((p0.Experts.length : Int) ≤ 8)))) pick_and) ?_
 refine val (x_move (.bool ((decide (1 ≤ (p0.Experts.length : Int))) && (decide ((p0.Experts.length : Int) ≤ 8)))) rfl) ?_
 refine gval rfl rfl (fun hb => x_fa rfl fo41_0) ?_
 refine gval rfl rfl (fun hb => x_ld 0 (.slice A1_ p0.Gate.length c1_) hO rfl (gv hb) rfl one25) ?_
 refine gval rfl rfl (fun hb => x_move (.int .i64 (p0.Experts.length : Int)) rfl) ?_
 refine gval rfl rfl (fun hb => x_ld 1 (.int .i64 p1) hO rfl rfl rfl one3) ?_
 rcases btest hm0 with ⟨hb5, hm0⟩ | ⟨hb5, hm0⟩
 ·refine yes rfl (kb rfl hb5) ?_
  obtain ⟨t6, ht7, hm0⟩ := bindSome hm0
  refine o_call hO go104 (mat_Right_ok hO.sub h1_ ht7) (args3 (by exact gkT hb5) (by exact gkT hb5) (by exact gkT hb5)) ?_
  rintro _ H8 w9 le10 rfl hO
  refine val (x_pick_t (kb rfl hb5) (.bool t6) rfl) ?_
  refine val (x_move (.bool t6) rfl) ?_
  refine gval rfl rfl (fun hb => x_fa rfl fo41_2) ?_
  refine gval rfl rfl (fun hb => x_ld 0 (.int .i64 p0.Capacity) hO rfl (gv hb) rfl one3) ?_
  refine gval rfl rfl (fun hb => x_geq (gv hb) rfl) ?_
  refine val (x_pick rfl (.bool (t6 && (decide (1 ≤ p0.Capacity)))) pick_and) ?_
  refine val (x_move (.bool (t6 && (decide (1 ≤ p0.Capacity)))) rfl) ?_
  refine gval rfl rfl (fun hb => x_fa rfl fo41_2) ?_
  refine gval rfl rfl (fun hb => x_ld 0 (.int .i64 p0.Capacity) hO rfl (gv hb) rfl one3) ?_
  refine gval rfl rfl (fun hb => x_leq (gv hb) rfl) ?_
  refine val (x_pick rfl (.bool ((t6 && (decide (1 ≤ p0.Capacity))) && (decide (p0.Capacity ≤ 32)))) pick_and) ?_
  refine val (x_move (.bool ((t6 && (decide (1 ≤ p0.Capacity))) && (decide (p0.Capacity ≤ 32)))) rfl) ?_
  refine gval rfl rfl (fun hb => x_fa rfl fo41_1) ?_
  refine gval rfl rfl (fun hb => x_ld 0 (.slice A2_ p0.Experts.length c2_) hO rfl (gv hb) rfl one39) ?_
  rcases btest hm0 with ⟨hb11, hm0⟩ | ⟨hb11, hm0⟩
  ·obtain ⟨H12, le13, h14, hO⟩ := hO.freezeBlk (en := (eInt .i64)) (x := p1) 1 rfl rfl
   refine yes rfl (kb rfl hb11) ?_
   refine val (x_fun [(.pointer (some (⟨g3, 0, none⟩)))] rfl) ?_
   refine yes rfl (kb rfl hb11) ?_
   obtain ⟨t15, ht16, hm0⟩ := bindSome hm0
   refine o_call hO go119 (slices_ContainsFunc_api_Expert_model_layer_1_ok hO.sub (h2_.up (le10.trans le13)) h14 ht16) (args2 (by exact gkT hb11) rfl) ?_
   rintro _ H17 w18 le19 rfl hO
   refine yes rfl (kb rfl hb11) ?_
   refine val (x_not rfl) ?_
   refine val (x_pick_t (kb rfl hb11) (.bool (!t15)) rfl) ?_
   refine val (x_assign (.bool (!t15)) rfl) ?_
   refine nil (W.ret ?_)
   obtain rfl := sj hm0
   exact ⟨H17, rfl, hO.done⟩
  ·refine no rfl (kb rfl hb11) rfl ?_
   refine no rfl (kb rfl hb11) rfl ?_
   refine no rfl (kb rfl hb11) rfl ?_
   refine val (x_pick_f (kb rfl hb11) (.bool false) rfl) ?_
   refine val (x_assign (.bool false) rfl) ?_
   refine nil (W.ret ?_)
   obtain rfl := sj hm0
   exact ⟨H8, rfl, hO.done⟩
 ·refine no rfl (kb rfl hb5) rfl ?_
  refine val (x_pick_f (kb rfl hb5) (.bool false) rfl) ?_
  refine val (x_move (.bool false) rfl) ?_
  refine no rfl rfl rfl ?_
  refine no rfl rfl rfl ?_
  refine no rfl rfl rfl ?_
  refine val (x_pick_f rfl (.bool false) rfl) ?_
  refine val (x_move (.bool false) rfl) ?_
  refine no rfl rfl rfl ?_
  refine no rfl rfl rfl ?_
  refine no rfl rfl rfl ?_
  refine val (x_pick_f rfl (.bool false) rfl) ?_
  refine val (x_move (.bool false) rfl) ?_
  refine no rfl rfl rfl ?_
  refine no rfl rfl rfl ?_
  refine no rfl rfl rfl ?_
  refine no rfl rfl rfl ?_
  refine no rfl rfl rfl ?_
  refine val (x_pick_f rfl (.bool false) rfl) ?_
  refine val (x_assign (.bool false) rfl) ?_
  refine nil (W.ret ?_)
  obtain rfl := sj hm0
  exact ⟨H0, rfl, hO.done⟩
theorem model_Right_1_ok {w0 : World} {H0 : IHeap} (hS : Sub H0 w0) {p0 : ApiLayer} {q_0 : ApiModel}  {A1_ : Option Addr} {c1_ : Nat} {A2_ : Option Addr} {c2_ : Nat} {a3_ : Addr} (h1_ : RS (eSl (eInt .i64)) H0 A1_ c1_ p0.Gate) (h2_ : RS eApiExpert H0 A2_ c2_ p0.Experts) (h3_ : At eApiModel H0 a3_ q_0) {res : Bool} (hm0 : model_Right_1 p0 q_0 = some res) :
  Ok prog 73 [(.agg #[(.slice A1_ p0.Gate.length c1_), (.slice A2_ p0.Experts.length c2_), (.int .i64 p0.Capacity)]), (.pointer (some a3_))].toArray w0 H0 (fun H' v => v = (.bool res)) := by
 unfold model_Right_1 at hm0
 refine ok_of_W Tryz.func73 rfl Tryz.ntmps73 (ts := [3]) rfl rfl rfl ?_
 have hO := St.start hS
 refine seq (region (o_box 0 [(.slice A1_ p0.Gate.length c1_), (.slice A2_ p0.Experts.length c2_), (.int .i64 p0.Capacity)] hO rfl ?_))
 intro g1 w2 hO
 refine val (x_assign (.bool false) rfl) ?_
 refine nil (seq (region (val (x_lds 0 [(.slice A1_ p0.Gate.length c1_), (.slice A2_ p0.Experts.length c2_), (.int .i64 p0.Capacity)] hO rfl rfl agg41 rfl rfl) ?_)))
 refine val (x_faAt rfl h3_ fo24_0) ?_
 refine val (x_ldc rfl ((h3_.part pApiModel_Dim).int _ hO.sub) one3) ?_
 obtain ⟨t3, ht4, hm0⟩ := bindSome hm0
 refine o_call hO go74 (model_layer_ok hO.sub h1_ h2_ ht4) rfl ?_
 rintro _ H5 w6 le7 rfl hO
 refine val (x_not rfl) ?_
 refine val (x_assign (.bool (!t3)) rfl) ?_
 refine nil (W.ret ?_)
 obtain rfl := sj hm0
 exact ⟨H5, rfl, hO.done⟩
theorem slices_IndexFunc_api_Layer_model_Right_1_ok {w0 : World} {H0 : IHeap} (hS : Sub H0 w0) {p0 : List ApiLayer} {q1_0 : ApiModel}  {A1_ : Option Addr} {c1_ : Nat} {a2_ : Addr} (h1_ : RS eApiLayer H0 A1_ c1_ p0) (h2_ : At eApiModel H0 a2_ q1_0) {res : Int} (hm0 : slices_IndexFunc_api_Layer_model_Right_1 p0 q1_0 = some res) :
  Ok prog 80 [(.slice A1_ p0.length c1_), (.func (.func 73) #[] #[(.pointer (some a2_))])].toArray w0 H0 (fun H' v => v = (.int .i64 res)) := by
 unfold slices_IndexFunc_api_Layer_model_Right_1 at hm0
 refine ok_of_W Tryz.func80 rfl Tryz.ntmps80 (ts := [4]) rfl rfl rfl ?_
 have hO := St.start hS
 refine seq (region (val (x_assign (.int .i64 0) rfl) ?_))
 refine nil (seq (seq (region (val (x_move (.slice A1_ p0.length c1_) rfl) ?_))))
 refine val (x_len rfl underlying22) ?_
 refine val (x_move (.int .i64 0) rfl) ?_
 refine nil ?_
 obtain ⟨o1, hm1, hm0⟩ := bindSome hm0
 have hO := hO.pick [] trivial
 refine W.blockLoop (fun r w => ∃ (i4 : Nat) (H2 : IHeap), .out () = o1 ∧ Le H0 H2 ∧ St w0 H0 [] H2 (ol []) w) (fun k r w => ∃ (i4 : Nat) (rest5 : List ApiLayer) (H2 : IHeap), k = rest5.length ∧ List.drop i4 p0 = rest5 ∧ slices_IndexFunc_api_Layer_model_Right_1_l1 q1_0 rest5 i4 = some o1 ∧ Le H0 H2 ∧ St w0 H0 [] H2 (ol []) w ∧ r 0 = (.slice A1_ p0.length c1_) ∧ r 1 = (.func (.func 73) #[] #[(.pointer (some a2_))]) ∧ r 7 = (.int .i64 (p0.length : Int)) ∧ r 8 = (.int .i64 (i4 : Int))) (List.length p0) ?_ ?_ ?_
 ·exact ⟨0, _, _, rfl, rfl, hm1, Le.refl _, hO, rfl, rfl, rfl, rfl⟩
 ·
  intro k r w
  rintro ⟨i4, rest5, H2, rfl, hd7, hm1, le3, hO, f0_1, f1_1, f7_1, f8_1⟩
  cases rest5 with
  | nil =>
   rw [slices_IndexFunc_api_Layer_model_Right_1_l1] at hm1
   have hlt := drop_nil hd7
   refine seq (region (val (x_lss f8_1 f7_1) ?_))
   refine nil (seq (W.cond_f (kb rfl hlt) ?_))
   refine W.exit _ rfl ?_
   obtain rfl := sj hm1
   exact ⟨i4, H2, rfl, le3, hO.pick _ trivial⟩
  | cons x6 rest5 =>
   rw [slices_IndexFunc_api_Layer_model_Right_1_l1] at hm1
   have hlt := drop_lt hd7
   have hnx := drop_next hd7
   have hinc := inc_len hlt h1_.1 h1_.2.1
   refine seq (region (val (x_lss f8_1 f7_1) ?_))
   refine nil (seq (W.cond_t (kb rfl hlt) ?_))
   refine skip (seq (W.block ?_))
   refine seq (region (val (x_move (.int .i64 (i4 : Int)) f8_1) ?_))
   refine val (x_assign (.int .i64 (i4 : Int)) rfl) ?_
   refine nil (seq (region (val (x_move (.func (.func 73) #[] #[(.pointer (some a2_))]) f1_1) ?_)))
   refine val (x_move (.slice A1_ p0.length c1_) f0_1) ?_
   refine val (x_move (.int .i64 (i4 : Int)) rfl) ?_
   obtain ⟨a8, h9, hA10, hin⟩ := RS.atR (h1_.up le3) hd7
   refine val (x_ia (sA rfl hA10) rfl sle22 hin) ?_
   obtain ⟨cs11, hr12, hc13⟩ := At.agg h9
   obtain ⟨A14, c15, A17, c18, rfl, h16, h19⟩ := hr12
   refine val (x_ldv rfl (hc13 _ _ _ hO.sub agg41)) ?_
   obtain ⟨t20, ht21, hm1⟩ := bindSome hm1
   refine o_callv (args := [(.agg #[(.slice A14 x6.Gate.length c15), (.slice A17 x6.Experts.length c18), (.int .i64 x6.Capacity)])]) (caps := [(.pointer (some a2_))]) hO rfl go73 (model_Right_1_ok hO.sub h16 h19 (h2_.up le3) ht21) rfl ?_
   rintro _ H22 w23 le24 rfl hO
   refine nil (test rfl hm1 ?_ ?_)
   ·intro hb25 hm1
    refine seq (region (val (x_move (.int .i64 (i4 : Int)) rfl) ?_))
    refine val (x_assign (.int .i64 (i4 : Int)) rfl) ?_
    refine nil (W.ret ?_)
    obtain rfl := sj hm1
    dsimp only at hm0
    obtain rfl := sj hm0
    exact ⟨H22, rfl, hO.done⟩
   ·intro hb25 hm1
    refine skip (region (val (x_add f8_1 rfl) ?_))
    refine val (x_move (.int .i64 (i64w ((i4 : Int) + 1))) rfl) ?_
    refine nil ?_
    exact ⟨_, Nat.lt_succ_self _, i4 + 1, rest5, H22, rfl, hnx, hm1, (le3.trans le24), hO.pick _ trivial, f0_1, f1_1, f7_1, (incv hinc)⟩
 ·intro r w
  rintro ⟨i28, H26, rfl, le27, hO⟩
  dsimp only at hm0
  refine seq (region (val (x_assign (.int .i64 (-1)) rfl) ?_))
  refine nil (W.ret ?_)
  obtain rfl := sj hm0
  exact ⟨H26, rfl, hO.done⟩
theorem slices_ContainsFunc_api_Layer_model_Right_1_ok {w0 : World} {H0 : IHeap} (hS : Sub H0 w0) {p0 : List ApiLayer} {q1_0 : ApiModel}  {A1_ : Option Addr} {c1_ : Nat} {a2_ : Addr} (h1_ : RS eApiLayer H0 A1_ c1_ p0) (h2_ : At eApiModel H0 a2_ q1_0) {res : Bool} (hm0 : slices_ContainsFunc_api_Layer_model_Right_1 p0 q1_0 = some res) :
  Ok prog 37 [(.slice A1_ p0.length c1_), (.func (.func 73) #[] #[(.pointer (some a2_))])].toArray w0 H0 (fun H' v => v = (.bool res)) := by
 unfold slices_ContainsFunc_api_Layer_model_Right_1 at hm0
 refine ok_of_W Tryz.func37 rfl Tryz.ntmps37 (ts := [4]) rfl rfl rfl ?_
 have hO := St.start hS
 refine seq (region (val (x_assign (.bool false) rfl) ?_))
 refine nil (seq (region (val (x_move (.slice A1_ p0.length c1_) rfl) ?_)))
 refine val (x_move (.func (.func 73) #[] #[(.pointer (some a2_))]) rfl) ?_
 obtain ⟨t1, ht2, hm0⟩ := bindSome hm0
 refine o_call hO go80 (slices_IndexFunc_api_Layer_model_Right_1_ok hO.sub h1_ h2_ ht2) rfl ?_
 rintro _ H3 w4 le5 rfl hO
 refine val (x_geq rfl rfl) ?_
 refine val (x_assign (.bool (decide (0 ≤ t1))) rfl) ?_
 refine nil (W.ret ?_)
 obtain rfl := sj hm0
 exact ⟨H3, rfl, hO.done⟩
theorem model_Right_ok {w0 : World} {H0 : IHeap} (hS : Sub H0 w0) {p0 : ApiModel}  {A1_ : Option Addr} {c1_ : Nat} (h1_ : RS eApiLayer H0 A1_ c1_ p0.Layers) {res : Bool} (hm0 : model_Right p0 = some res) :
  Ok prog 34 [(.agg #[(.int .i64 p0.Dim), (.slice A1_ p0.Layers.length c1_)])].toArray w0 H0 (fun H' v => v = (.bool res)) := by
 unfold model_Right at hm0
 refine ok_of_W Tryz.func34 rfl Tryz.ntmps34 (ts := [2]) rfl rfl rfl ?_
 have hO := St.start hS
 refine seq (region (o_box 0 [(.int .i64 p0.Dim), (.slice A1_ p0.Layers.length c1_)] hO rfl ?_))
 intro g1 w2 hO
 refine val (x_assign (.bool false) rfl) ?_
 refine nil (seq (region (val (x_fa rfl fo24_0) ?_)))
 refine val (x_ld 0 (.int .i64 p0.Dim) hO rfl rfl rfl one3) ?_
 refine val (x_geq rfl rfl) ?_
 refine val (x_move (.bool (decide (1 ≤ p0.Dim))) rfl) ?_
 refine gval rfl rfl (fun hb => x_fa rfl fo24_0) ?_
 refine gval rfl rfl (fun hb => x_ld 0 (.int .i64 p0.Dim) hO rfl (gv hb) rfl one3) ?_
 refine gval rfl rfl (fun hb => x_leq (gv hb) rfl) ?_
 refine val (x_pick rfl (.bool ((decide (1 ≤ p0.Dim)) && (decide (p0.Dim ≤ 8)))) pick_and) ?_
 refine val (x_move (.bool ((decide (1 ≤ p0.Dim)) && (decide (p0.Dim ≤ 8)))) rfl) ?_
 refine gval rfl rfl (fun hb => x_fa rfl fo24_1) ?_
 refine gval rfl rfl (fun hb => x_ld 0 (.slice A1_ p0.Layers.length c1_) hO rfl (gv hb) rfl one22) ?_
 refine gval rfl rfl (fun hb => x_len (gv hb) underlying22) ?_
 refine gval rfl rfl (fun hb => x_geq (gv hb) rfl) ?_
 refine val (x_pick rfl (.bool (((decide (1 ≤ p0.Dim)) && (decide (p0.Dim ≤ 8))) && (decide (1 ≤ (p0.Layers.length : Int))))) pick_and) ?_
 refine val (x_move (.bool (((decide (1 ≤ p0.Dim)) && (decide (p0.Dim ≤ 8))) && (decide (1 ≤ (p0.Layers.length : Int))))) rfl) ?_
 refine gval rfl rfl (fun hb => x_fa rfl fo24_1) ?_
 refine gval rfl rfl (fun hb => x_ld 0 (.slice A1_ p0.Layers.length c1_) hO rfl (gv hb) rfl one22) ?_
 refine gval rfl rfl (fun hb => x_len (gv hb) underlying22) ?_
 refine gval rfl rfl (fun hb => x_leq (gv hb) rfl) ?_
 refine val (x_pick rfl (.bool ((((decide (1 ≤ p0.Dim)) && (decide (p0.Dim ≤ 8))) && (decide (1 ≤ (p0.Layers.length : Int)))) && (decide ((p0.Layers.length : Int) ≤ 4)))) pick_and) ?_
 refine val (x_move (.bool ((((decide (1 ≤ p0.Dim)) && (decide (p0.Dim ≤ 8))) && (decide (1 ≤ (p0.Layers.length : Int)))) && (decide ((p0.Layers.length : Int) ≤ 4)))) rfl) ?_
 refine gval rfl rfl (fun hb => x_fa rfl fo24_1) ?_
 refine gval rfl rfl (fun hb => x_ld 0 (.slice A1_ p0.Layers.length c1_) hO rfl (gv hb) rfl one22) ?_
 rcases btest hm0 with ⟨hb3, hm0⟩ | ⟨hb3, hm0⟩
 ·obtain ⟨H4, le5, h6, hO⟩ := hO.freezeBlk (en := eApiModel) (x := p0) 0 rfl ⟨A1_, c1_, rfl, h1_⟩
  refine yes rfl (kb rfl hb3) ?_
  refine val (x_fun [(.pointer (some (⟨g1, 0, none⟩)))] rfl) ?_
  refine yes rfl (kb rfl hb3) ?_
  obtain ⟨t7, ht8, hm0⟩ := bindSome hm0
  refine o_call hO go37 (slices_ContainsFunc_api_Layer_model_Right_1_ok hO.sub (h1_.up le5) h6 ht8) (args2 (by exact gkT hb3) rfl) ?_
  rintro _ H9 w10 le11 rfl hO
  refine yes rfl (kb rfl hb3) ?_
  refine val (x_not rfl) ?_
  refine val (x_pick_t (kb rfl hb3) (.bool (!t7)) rfl) ?_
  refine val (x_assign (.bool (!t7)) rfl) ?_
  refine nil (W.ret ?_)
  obtain rfl := sj hm0
  exact ⟨H9, rfl, hO.done⟩
 ·refine no rfl (kb rfl hb3) rfl ?_
  refine no rfl (kb rfl hb3) rfl ?_
  refine no rfl (kb rfl hb3) rfl ?_
  refine val (x_pick_f (kb rfl hb3) (.bool false) rfl) ?_
  refine val (x_assign (.bool false) rfl) ?_
  refine nil (W.ret ?_)
  obtain rfl := sj hm0
  exact ⟨H0, rfl, hO.done⟩
theorem model_Tokens_1_1_ok {w0 : World} {H0 : IHeap} (hS : Sub H0 w0) {p0 : Int}    {res : Bool} (hm0 : model_Tokens_1_1 p0 = some res) :
  Ok prog 78 [(.int .i64 p0)].toArray w0 H0 (fun H' v => v = (.bool res)) := by
 unfold model_Tokens_1_1 at hm0
 refine ok_of_W Tryz.func78 rfl Tryz.ntmps78 (ts := [2]) rfl rfl rfl ?_
 have hO := St.start hS
 refine seq (region (val (x_assign (.bool false) rfl) ?_))
 refine nil (seq (region (val (x_move (.int .i64 p0) rfl) ?_)))
 obtain ⟨t1, ht2, hm0⟩ := bindSome hm0
 refine o_call hO go79 (fix_Hold_ok hO.sub  ht2) rfl ?_
 rintro _ H3 w4 le5 rfl hO
 refine val (x_move (.int .i64 p0) rfl) ?_
 refine val (x_neq rfl rfl) ?_
 refine val (x_assign (.bool (t1 != p0)) rfl) ?_
 refine nil (W.ret ?_)
 obtain rfl := sj hm0
 exact ⟨H3, rfl, hO.done⟩
theorem slices_IndexFunc_int_model_Tokens_1_1_ok {w0 : World} {H0 : IHeap} (hS : Sub H0 w0) {p0 : List Int}  {A1_ : Option Addr} {c1_ : Nat} (h1_ : RS (eInt .i64) H0 A1_ c1_ p0) {res : Int} (hm0 : slices_IndexFunc_int_model_Tokens_1_1 p0 = some res) :
  Ok prog 122 [(.slice A1_ p0.length c1_), (.func (.func 78) #[] #[])].toArray w0 H0 (fun H' v => v = (.int .i64 res)) := by
 unfold slices_IndexFunc_int_model_Tokens_1_1 at hm0
 refine ok_of_W Tryz.func122 rfl Tryz.ntmps122 (ts := [4]) rfl rfl rfl ?_
 have hO := St.start hS
 refine seq (region (val (x_assign (.int .i64 0) rfl) ?_))
 refine nil (seq (seq (region (val (x_move (.slice A1_ p0.length c1_) rfl) ?_))))
 refine val (x_len rfl underlying61) ?_
 refine val (x_move (.int .i64 0) rfl) ?_
 refine nil ?_
 obtain ⟨o1, hm1, hm0⟩ := bindSome hm0
 have hO := hO.pick [] trivial
 refine W.blockLoop (fun r w => ∃ (i4 : Nat) (H2 : IHeap), .out () = o1 ∧ Le H0 H2 ∧ St w0 H0 [] H2 (ol []) w) (fun k r w => ∃ (i4 : Nat) (rest5 : List Int) (H2 : IHeap), k = rest5.length ∧ List.drop i4 p0 = rest5 ∧ slices_IndexFunc_int_model_Tokens_1_1_l1 rest5 i4 = some o1 ∧ Le H0 H2 ∧ St w0 H0 [] H2 (ol []) w ∧ r 0 = (.slice A1_ p0.length c1_) ∧ r 1 = (.func (.func 78) #[] #[]) ∧ r 7 = (.int .i64 (p0.length : Int)) ∧ r 8 = (.int .i64 (i4 : Int))) (List.length p0) ?_ ?_ ?_
 ·exact ⟨0, _, _, rfl, rfl, hm1, Le.refl _, hO, rfl, rfl, rfl, rfl⟩
 ·
  intro k r w
  rintro ⟨i4, rest5, H2, rfl, hd7, hm1, le3, hO, f0_1, f1_1, f7_1, f8_1⟩
  cases rest5 with
  | nil =>
   rw [slices_IndexFunc_int_model_Tokens_1_1_l1] at hm1
   have hlt := drop_nil hd7
   refine seq (region (val (x_lss f8_1 f7_1) ?_))
   refine nil (seq (W.cond_f (kb rfl hlt) ?_))
   refine W.exit _ rfl ?_
   obtain rfl := sj hm1
   exact ⟨i4, H2, rfl, le3, hO.pick _ trivial⟩
  | cons x6 rest5 =>
   rw [slices_IndexFunc_int_model_Tokens_1_1_l1] at hm1
   have hlt := drop_lt hd7
   have hnx := drop_next hd7
   have hinc := inc_len hlt h1_.1 h1_.2.1
   refine seq (region (val (x_lss f8_1 f7_1) ?_))
   refine nil (seq (W.cond_t (kb rfl hlt) ?_))
   refine skip (seq (W.block ?_))
   refine seq (region (val (x_move (.int .i64 (i4 : Int)) f8_1) ?_))
   refine val (x_assign (.int .i64 (i4 : Int)) rfl) ?_
   refine nil (seq (region (val (x_move (.func (.func 78) #[] #[]) f1_1) ?_)))
   refine val (x_move (.slice A1_ p0.length c1_) f0_1) ?_
   refine val (x_move (.int .i64 (i4 : Int)) rfl) ?_
   obtain ⟨a8, h9, hA10, hin⟩ := RS.atR (h1_.up le3) hd7
   refine val (x_ia (sA rfl hA10) rfl sle61 hin) ?_
   refine val (x_ldc rfl (h9.int _ hO.sub) one3) ?_
   obtain ⟨t11, ht12, hm1⟩ := bindSome hm1
   refine o_callv (args := [(.int .i64 x6)]) (caps := []) hO rfl go78 (model_Tokens_1_1_ok hO.sub  ht12) rfl ?_
   rintro _ H13 w14 le15 rfl hO
   refine nil (test rfl hm1 ?_ ?_)
   ·intro hb16 hm1
    refine seq (region (val (x_move (.int .i64 (i4 : Int)) rfl) ?_))
    refine val (x_assign (.int .i64 (i4 : Int)) rfl) ?_
    refine nil (W.ret ?_)
    obtain rfl := sj hm1
    dsimp only at hm0
    obtain rfl := sj hm0
    exact ⟨H13, rfl, hO.done⟩
   ·intro hb16 hm1
    refine skip (region (val (x_add f8_1 rfl) ?_))
    refine val (x_move (.int .i64 (i64w ((i4 : Int) + 1))) rfl) ?_
    refine nil ?_
    exact ⟨_, Nat.lt_succ_self _, i4 + 1, rest5, H13, rfl, hnx, hm1, (le3.trans le15), hO.pick _ trivial, f0_1, f1_1, f7_1, (incv hinc)⟩
 ·intro r w
  rintro ⟨i19, H17, rfl, le18, hO⟩
  dsimp only at hm0
  refine seq (region (val (x_assign (.int .i64 (-1)) rfl) ?_))
  refine nil (W.ret ?_)
  obtain rfl := sj hm0
  exact ⟨H17, rfl, hO.done⟩
theorem slices_ContainsFunc_int_model_Tokens_1_1_ok {w0 : World} {H0 : IHeap} (hS : Sub H0 w0) {p0 : List Int}  {A1_ : Option Addr} {c1_ : Nat} (h1_ : RS (eInt .i64) H0 A1_ c1_ p0) {res : Bool} (hm0 : slices_ContainsFunc_int_model_Tokens_1_1 p0 = some res) :
  Ok prog 77 [(.slice A1_ p0.length c1_), (.func (.func 78) #[] #[])].toArray w0 H0 (fun H' v => v = (.bool res)) := by
 unfold slices_ContainsFunc_int_model_Tokens_1_1 at hm0
 refine ok_of_W Tryz.func77 rfl Tryz.ntmps77 (ts := [4]) rfl rfl rfl ?_
 have hO := St.start hS
 refine seq (region (val (x_assign (.bool false) rfl) ?_))
 refine nil (seq (region (val (x_move (.slice A1_ p0.length c1_) rfl) ?_)))
 refine val (x_move (.func (.func 78) #[] #[]) rfl) ?_
 obtain ⟨t1, ht2, hm0⟩ := bindSome hm0
 refine o_call hO go122 (slices_IndexFunc_int_model_Tokens_1_1_ok hO.sub h1_ ht2) rfl ?_
 rintro _ H3 w4 le5 rfl hO
 refine val (x_geq rfl rfl) ?_
 refine val (x_assign (.bool (decide (0 ≤ t1))) rfl) ?_
 refine nil (W.ret ?_)
 obtain rfl := sj hm0
 exact ⟨H3, rfl, hO.done⟩
theorem model_Tokens_1_ok {w0 : World} {H0 : IHeap} (hS : Sub H0 w0) {p0 : List Int} {q_0 : ApiModel}  {A1_ : Option Addr} {c1_ : Nat} {a2_ : Addr} (h1_ : RS (eInt .i64) H0 A1_ c1_ p0) (h2_ : At eApiModel H0 a2_ q_0) {res : Bool} (hm0 : model_Tokens_1 p0 q_0 = some res) :
  Ok prog 76 [(.slice A1_ p0.length c1_), (.pointer (some a2_))].toArray w0 H0 (fun H' v => v = (.bool res)) := by
 unfold model_Tokens_1 at hm0
 refine ok_of_W Tryz.func76 rfl Tryz.ntmps76 (ts := [3]) rfl rfl rfl ?_
 have hO := St.start hS
 refine seq (region (val (x_assign (.bool false) rfl) ?_))
 refine nil (seq (region (val (x_move (.slice A1_ p0.length c1_) rfl) ?_)))
 refine val (x_len rfl underlying61) ?_
 refine val (x_faAt rfl h2_ fo24_0) ?_
 refine val (x_ldc rfl ((h2_.part pApiModel_Dim).int _ hO.sub) one3) ?_
 refine val (x_neq rfl rfl) ?_
 refine val (x_move (.bool ((p0.length : Int) != q_0.Dim)) rfl) ?_
 refine gval rfl rfl (fun hb => x_move (.slice A1_ p0.length c1_) rfl) ?_
 rcases btest hm0 with ⟨hb1, hm0⟩ | ⟨hb1, hm0⟩
 ·refine no rfl (kb rfl hb1) rfl ?_
  refine val (x_pick_t (kb rfl hb1) (.bool true) rfl) ?_
  refine val (x_assign (.bool true) rfl) ?_
  refine nil (W.ret ?_)
  obtain rfl := sj hm0
  exact ⟨H0, rfl, hO.done⟩
 ·refine yes rfl (kb rfl hb1) ?_
  obtain ⟨t2, ht3, hm0⟩ := bindSome hm0
  refine o_call hO go77 (slices_ContainsFunc_int_model_Tokens_1_1_ok hO.sub h1_ ht3) (args2 (by exact gkF hb1) rfl) ?_
  rintro _ H4 w5 le6 rfl hO
  refine val (x_pick_f (kb rfl hb1) (.bool t2) rfl) ?_
  refine val (x_assign (.bool t2) rfl) ?_
  refine nil (W.ret ?_)
  obtain rfl := sj hm0
  exact ⟨H4, rfl, hO.done⟩
theorem slices_IndexFunc__int_model_Tokens_1_ok {w0 : World} {H0 : IHeap} (hS : Sub H0 w0) {p0 : List (List Int)} {q1_0 : ApiModel}  {A1_ : Option Addr} {c1_ : Nat} {a2_ : Addr} (h1_ : RS (eSl (eInt .i64)) H0 A1_ c1_ p0) (h2_ : At eApiModel H0 a2_ q1_0) {res : Int} (hm0 : slices_IndexFunc__int_model_Tokens_1 p0 q1_0 = some res) :
  Ok prog 121 [(.slice A1_ p0.length c1_), (.func (.func 76) #[] #[(.pointer (some a2_))])].toArray w0 H0 (fun H' v => v = (.int .i64 res)) := by
 unfold slices_IndexFunc__int_model_Tokens_1 at hm0
 refine ok_of_W Tryz.func121 rfl Tryz.ntmps121 (ts := [4]) rfl rfl rfl ?_
 have hO := St.start hS
 refine seq (region (val (x_assign (.int .i64 0) rfl) ?_))
 refine nil (seq (seq (region (val (x_move (.slice A1_ p0.length c1_) rfl) ?_))))
 refine val (x_len rfl underlying25) ?_
 refine val (x_move (.int .i64 0) rfl) ?_
 refine nil ?_
 obtain ⟨o1, hm1, hm0⟩ := bindSome hm0
 have hO := hO.pick [] trivial
 refine W.blockLoop (fun r w => ∃ (i4 : Nat) (H2 : IHeap), .out () = o1 ∧ Le H0 H2 ∧ St w0 H0 [] H2 (ol []) w) (fun k r w => ∃ (i4 : Nat) (rest5 : List (List Int)) (H2 : IHeap), k = rest5.length ∧ List.drop i4 p0 = rest5 ∧ slices_IndexFunc__int_model_Tokens_1_l1 q1_0 rest5 i4 = some o1 ∧ Le H0 H2 ∧ St w0 H0 [] H2 (ol []) w ∧ r 0 = (.slice A1_ p0.length c1_) ∧ r 1 = (.func (.func 76) #[] #[(.pointer (some a2_))]) ∧ r 7 = (.int .i64 (p0.length : Int)) ∧ r 8 = (.int .i64 (i4 : Int))) (List.length p0) ?_ ?_ ?_
 ·exact ⟨0, _, _, rfl, rfl, hm1, Le.refl _, hO, rfl, rfl, rfl, rfl⟩
 ·
  intro k r w
  rintro ⟨i4, rest5, H2, rfl, hd7, hm1, le3, hO, f0_1, f1_1, f7_1, f8_1⟩
  cases rest5 with
  | nil =>
   rw [slices_IndexFunc__int_model_Tokens_1_l1] at hm1
   have hlt := drop_nil hd7
   refine seq (region (val (x_lss f8_1 f7_1) ?_))
   refine nil (seq (W.cond_f (kb rfl hlt) ?_))
   refine W.exit _ rfl ?_
   obtain rfl := sj hm1
   exact ⟨i4, H2, rfl, le3, hO.pick _ trivial⟩
  | cons x6 rest5 =>
   rw [slices_IndexFunc__int_model_Tokens_1_l1] at hm1
   have hlt := drop_lt hd7
   have hnx := drop_next hd7
   have hinc := inc_len hlt h1_.1 h1_.2.1
   refine seq (region (val (x_lss f8_1 f7_1) ?_))
   refine nil (seq (W.cond_t (kb rfl hlt) ?_))
   refine skip (seq (W.block ?_))
   refine seq (region (val (x_move (.int .i64 (i4 : Int)) f8_1) ?_))
   refine val (x_assign (.int .i64 (i4 : Int)) rfl) ?_
   refine nil (seq (region (val (x_move (.func (.func 76) #[] #[(.pointer (some a2_))]) f1_1) ?_)))
   refine val (x_move (.slice A1_ p0.length c1_) f0_1) ?_
   refine val (x_move (.int .i64 (i4 : Int)) rfl) ?_
   obtain ⟨a8, h9, hA10, hin⟩ := RS.atR (h1_.up le3) hd7
   refine val (x_ia (sA rfl hA10) rfl sle25 hin) ?_
   obtain ⟨A11, c12, h13, hc14⟩ := At.sl h9
   refine val (x_ldc rfl (hc14 _ hO.sub) one61) ?_
   obtain ⟨t15, ht16, hm1⟩ := bindSome hm1
   refine o_callv (args := [(.slice A11 x6.length c12)]) (caps := [(.pointer (some a2_))]) hO rfl go76 (model_Tokens_1_ok hO.sub h13 (h2_.up le3) ht16) rfl ?_
   rintro _ H17 w18 le19 rfl hO
   refine nil (test rfl hm1 ?_ ?_)
   ·intro hb20 hm1
    refine seq (region (val (x_move (.int .i64 (i4 : Int)) rfl) ?_))
    refine val (x_assign (.int .i64 (i4 : Int)) rfl) ?_
    refine nil (W.ret ?_)
    obtain rfl := sj hm1
    dsimp only at hm0
    obtain rfl := sj hm0
    exact ⟨H17, rfl, hO.done⟩
   ·intro hb20 hm1
    refine skip (region (val (x_add f8_1 rfl) ?_))
    refine val (x_move (.int .i64 (i64w ((i4 : Int) + 1))) rfl) ?_
    refine nil ?_
    exact ⟨_, Nat.lt_succ_self _, i4 + 1, rest5, H17, rfl, hnx, hm1, (le3.trans le19), hO.pick _ trivial, f0_1, f1_1, f7_1, (incv hinc)⟩
 ·intro r w
  rintro ⟨i23, H21, rfl, le22, hO⟩
  dsimp only at hm0
  refine seq (region (val (x_assign (.int .i64 (-1)) rfl) ?_))
  refine nil (W.ret ?_)
  obtain rfl := sj hm0
  exact ⟨H21, rfl, hO.done⟩
end Go.Sw

/- The calls compute the mirrors. -/
import Derived.Test.YtahaedoeckgidaaGreatZgF
import Derived.Test.YtahaedoeckgidaaGreatZgC1
import Derived.Test.YtahaedoeckgidaaGreatZgC2
import Derived.Test.YtahaedoeckgidaaGreatZgC4
import Derived.Test.YtahaedoeckgidaaGreatZgC9
set_option linter.unusedVariables false
set_option linter.unusedSimpArgs false
set_option maxRecDepth 100000
namespace Go.Sw
open WL (val nil gval yes no)
open W (region test seq skip)
open WA (take)
open Go.Proofs.Tryz
open Go.Proofs
theorem slices_Index_int_ok {w0 : World} {H0 : IHeap} (hS : Sub H0 w0) {p0 : List Int} {p1 : Int}  {A1_ : Option Addr} {c1_ : Nat} (h1_ : RS (eInt .i64) H0 A1_ c1_ p0) {res : Int} (hm0 : slices_Index_int p0 p1 = some res) :
  Ok prog 142 [(.slice A1_ p0.length c1_), (.int .i64 p1)].toArray w0 H0 (fun H' v => v = (.int .i64 res)) := by
 unfold slices_Index_int at hm0
 refine ok_of_W Tryz.func142 rfl Tryz.ntmps142 (ts := [4]) rfl rfl rfl ?_
 have hO := St.start hS
 refine seq (region (val (x_assign (.int .i64 0) rfl) ?_))
 refine nil (seq (seq (region (val (x_move (.slice A1_ p0.length c1_) rfl) ?_))))
 refine val (x_len rfl underlying61) ?_
 refine val (x_move (.int .i64 0) rfl) ?_
 refine nil ?_
 obtain ⟨o1, hm1, hm0⟩ := bindSome hm0
 have hO := hO.pick [] trivial
 refine W.blockLoop (fun r w => ∃ (i4 : Nat) (H2 : IHeap), .out () = o1 ∧ Le H0 H2 ∧ St w0 H0 [] H2 (ol []) w) (fun k r w => ∃ (i4 : Nat) (rest5 : List Int) (H2 : IHeap), k = rest5.length ∧ List.drop i4 p0 = rest5 ∧ slices_Index_int_l1 p1 rest5 i4 = some o1 ∧ Le H0 H2 ∧ St w0 H0 [] H2 (ol []) w ∧ r 0 = (.slice A1_ p0.length c1_) ∧ r 1 = (.int .i64 p1) ∧ r 7 = (.int .i64 (p0.length : Int)) ∧ r 8 = (.int .i64 (i4 : Int))) (List.length p0) ?_ ?_ ?_
 ·exact ⟨0, _, _, rfl, rfl, hm1, Le.refl _, hO, rfl, rfl, rfl, rfl⟩
 ·
  intro k r w
  rintro ⟨i4, rest5, H2, rfl, hd7, hm1, le3, hO, f0_1, f1_1, f7_1, f8_1⟩
  cases rest5 with
  | nil =>
   rw [slices_Index_int_l1] at hm1
   have hlt := drop_nil hd7
   refine seq (region (val (x_lss f8_1 f7_1) ?_))
   refine nil (seq (W.cond_f (kb rfl hlt) ?_))
   refine W.exit _ rfl ?_
   obtain rfl := sj hm1
   exact ⟨i4, H2, rfl, le3, hO.pick _ trivial⟩
  | cons x6 rest5 =>
   rw [slices_Index_int_l1] at hm1
   have hlt := drop_lt hd7
   have hnx := drop_next hd7
   have hinc := inc_len hlt h1_.1 h1_.2.1
   refine seq (region (val (x_lss f8_1 f7_1) ?_))
   refine nil (seq (W.cond_t (kb rfl hlt) ?_))
   refine skip (seq (W.block ?_))
   refine seq (region (val (x_move (.int .i64 (i4 : Int)) f8_1) ?_))
   refine val (x_assign (.int .i64 (i4 : Int)) rfl) ?_
   refine nil (seq (region (val (x_move (.int .i64 p1) f1_1) ?_)))
   refine val (x_move (.slice A1_ p0.length c1_) f0_1) ?_
   refine val (x_move (.int .i64 (i4 : Int)) rfl) ?_
   obtain ⟨a8, h9, hA10, hin⟩ := RS.atR (h1_.up le3) hd7
   refine val (x_ia (sA rfl hA10) rfl sle61 hin) ?_
   refine val (x_ldc rfl (h9.int _ hO.sub) one3) ?_
   refine val (x_eql rfl rfl) ?_
   refine nil (test rfl hm1 ?_ ?_)
   ·intro hb11 hm1
    refine seq (region (val (x_move (.int .i64 (i4 : Int)) rfl) ?_))
    refine val (x_assign (.int .i64 (i4 : Int)) rfl) ?_
    refine nil (W.ret ?_)
    obtain rfl := sj hm1
    dsimp only at hm0
    obtain rfl := sj hm0
    exact ⟨H2, rfl, hO.done⟩
   ·intro hb11 hm1
    refine skip (region (val (x_add f8_1 rfl) ?_))
    refine val (x_move (.int .i64 (i64w ((i4 : Int) + 1))) rfl) ?_
    refine nil ?_
    exact ⟨_, Nat.lt_succ_self _, i4 + 1, rest5, H2, rfl, hnx, hm1, le3, hO.pick _ trivial, f0_1, f1_1, f7_1, (incv hinc)⟩
 ·intro r w
  rintro ⟨i14, H12, rfl, le13, hO⟩
  dsimp only at hm0
  refine seq (region (val (x_assign (.int .i64 (-1)) rfl) ?_))
  refine nil (W.ret ?_)
  obtain rfl := sj hm0
  exact ⟨H12, rfl, hO.done⟩
theorem slices_Contains_int_ok {w0 : World} {H0 : IHeap} (hS : Sub H0 w0) {p0 : List Int} {p1 : Int}  {A1_ : Option Addr} {c1_ : Nat} (h1_ : RS (eInt .i64) H0 A1_ c1_ p0) {res : Bool} (hm0 : slices_Contains_int p0 p1 = some res) :
  Ok prog 112 [(.slice A1_ p0.length c1_), (.int .i64 p1)].toArray w0 H0 (fun H' v => v = (.bool res)) := by
 unfold slices_Contains_int at hm0
 refine ok_of_W Tryz.func112 rfl Tryz.ntmps112 (ts := [4]) rfl rfl rfl ?_
 have hO := St.start hS
 refine seq (region (val (x_assign (.bool false) rfl) ?_))
 refine nil (seq (region (val (x_move (.slice A1_ p0.length c1_) rfl) ?_)))
 refine val (x_move (.int .i64 p1) rfl) ?_
 obtain ⟨t1, ht2, hm0⟩ := bindSome hm0
 refine o_call hO go142 (slices_Index_int_ok hO.sub h1_ ht2) rfl ?_
 rintro _ H3 w4 le5 rfl hO
 refine val (x_geq rfl rfl) ?_
 refine val (x_assign (.bool (decide (0 ≤ t1))) rfl) ?_
 refine nil (W.ret ?_)
 obtain rfl := sj hm0
 exact ⟨H3, rfl, hO.done⟩
theorem place_Holds_ok {w0 : World} {H0 : IHeap} (hS : Sub H0 w0) {p0 : PlaceMap} {p1 : Int} {p2 : Int}  {A1_ : Option Addr} {c1_ : Nat} (h1_ : RS (eSl (eInt .i64)) H0 A1_ c1_ p0.Holders) {res : Bool} (hm0 : place_Holds p0 p1 p2 = some res) :
  Ok prog 98 [(.agg #[(.int .i64 p0.Epoch), (.slice A1_ p0.Holders.length c1_)]), (.int .i64 p1), (.int .i64 p2)].toArray w0 H0 (fun H' v => v = (.bool res)) := by
 unfold place_Holds at hm0
 refine ok_of_W Tryz.func98 rfl Tryz.ntmps98 (ts := [6]) rfl rfl rfl ?_
 have hO := St.start hS
 refine seq (region (o_box 0 [(.int .i64 p0.Epoch), (.slice A1_ p0.Holders.length c1_)] hO rfl ?_))
 intro g1 w2 hO
 refine val (x_assign (.bool false) rfl) ?_
 refine nil (seq (region (val (x_move (.int .i64 p1) rfl) ?_)))
 refine val (x_geq rfl rfl) ?_
 refine val (x_move (.bool (decide (0 ≤ p1))) rfl) ?_
 refine gval rfl rfl (fun hb => x_move (.int .i64 p1) rfl) ?_
 refine gval rfl rfl (fun hb => x_fa rfl fo27_1) ?_
 refine gval rfl rfl (fun hb => x_ld 0 (.slice A1_ p0.Holders.length c1_) hO rfl (gv hb) rfl one25) ?_
 refine gval rfl rfl (fun hb => x_len (gv hb) underlying25) ?_
 refine gval rfl rfl (fun hb => x_lss (gv hb) (gv hb)) ?_
 refine val (x_pick rfl (.bool ((decide (0 ≤ p1)) && (decide (p1 < (p0.Holders.length : Int))))) pick_and) ?_
 refine val (x_move (.bool ((decide (0 ≤ p1)) && (decide (p1 < (p0.Holders.length : Int))))) rfl) ?_
 refine gval rfl rfl (fun hb => x_fa rfl fo27_1) ?_
 refine gval rfl rfl (fun hb => x_ld 0 (.slice A1_ p0.Holders.length c1_) hO rfl (gv hb) rfl one25) ?_
 refine gval rfl rfl (fun hb => x_move (.int .i64 p1) rfl) ?_
 rcases btest hm0 with ⟨hb3, hm0⟩ | ⟨hb3, hm0⟩
 ·refine yes rfl (kb rfl hb3) ?_
  obtain ⟨hin7, hm0⟩ := chk hm0
  obtain ⟨a4, h5, hA6⟩ := RS.at_ h1_ hin7
  refine val (x_ia (sA (by exact gkT hb3) hA6) (by exact gkT hb3) sle25 hin7) ?_
  obtain ⟨A8, c9, h10, hc11⟩ := At.sl h5
  refine yes rfl (kb rfl hb3) ?_
  refine val (x_ldc rfl (hc11 _ hO.sub) one61) ?_
  refine yes rfl (kb rfl hb3) ?_
  refine val (x_move (.int .i64 p2) rfl) ?_
  refine yes rfl (kb rfl hb3) ?_
  obtain ⟨t12, ht13, hm0⟩ := bindSome hm0
  refine o_call hO go112 (slices_Contains_int_ok hO.sub h10 ht13) rfl ?_
  rintro _ H14 w15 le16 rfl hO
  refine val (x_pick_t (kb rfl hb3) (.bool t12) rfl) ?_
  refine val (x_assign (.bool t12) rfl) ?_
  refine nil (W.ret ?_)
  obtain rfl := sj hm0
  exact ⟨H14, rfl, hO.done⟩
 ·refine no rfl (kb rfl hb3) rfl ?_
  refine no rfl (kb rfl hb3) rfl ?_
  refine no rfl (kb rfl hb3) rfl ?_
  refine no rfl (kb rfl hb3) rfl ?_
  refine val (x_pick_f (kb rfl hb3) (.bool false) rfl) ?_
  refine val (x_assign (.bool false) rfl) ?_
  refine nil (W.ret ?_)
  obtain rfl := sj hm0
  exact ⟨H0, rfl, hO.done⟩
theorem slices_Clone_int_ok {w0 : World} {H0 : IHeap} (hS : Sub H0 w0) {p0 : List Int} {A1_ : Option Addr} {c1_ : Nat} (h1_ : RS (eInt .i64) H0 A1_ c1_ p0) {res : List Int} (hm0 : slices_Clone_int p0 = some res) :
  OkO prog 113 [(.slice A1_ p0.length c1_)].toArray w0 H0 (fun H' O' v => ∃ (A : Option Addr) (c : Nat) (cs : List Value), v = .slice A res.length c ∧ Rows (eInt .i64) H' cs res ∧ O' 0 = some (.row A c 3 (eInt .i64).size res.length cs)) := by
 obtain ⟨hl, hm0⟩ := chk hm0
 obtain rfl := sj hm0
 refine okO_of_W Tryz.func113 rfl Tryz.ntmps113 (rs := [.tmp 2]) rfl rfl ?_
 have hO := St.start hS
 refine seq (region (val (x_assign (.slice none 0 0) rfl) ?_))
 refine nil (seq (seq (region (val (x_move (.slice A1_ p0.length c1_) rfl) ?_))))
 refine val (x_eqlnil underlying61 rfl rfl) ?_
 refine nil (W.cond A1_.isNone rfl (fun hb => ?_) (fun hb => ?_))
 ·have hx := h1_.isNone hb
  subst hx
  refine seq (region (val (x_assign (.slice none 0 0) rfl) ?_))
  refine nil (W.ret ?_)
  have hO := hO.nilRowT (α := Int) 0 none 3 (eInt .i64)
  exact ⟨[_], ⟨rfl, trivial⟩, H0, ol [(0, _)], ⟨_, _, _, rfl, Rows.nil, rfl⟩, hO.row0 0 rfl⟩
 ·refine skip (seq (region (o_litT (en := (eInt .i64)) 0 [] ([] : List Int) hO sli61 trivial rfl rfl rfl ?_)))
  intro g cs w hr hO
  refine val (x_move (.slice A1_ p0.length c1_) rfl) ?_
  obtain ⟨ce, hs, hr2⟩ := RS.src h1_ hO
  have hm1 : (bif lim (([] : List Int).length + p0.length) then some () else none) = some () := by simp [hl]
  refine o_appT (en := (eInt .i64)) (xs := ([] : List Int)) (ys := p0) 0 hO rfl hr rfl rfl hs hr2 sli61 rfl rfl underlying61 hm1 ?_
  intro A c cs w hr hO hm1
  refine val (x_assign (.slice A (([] : List Int) ++ p0).length c) rfl) ?_
  refine nil (W.ret ?_)
  exact ⟨[_], ⟨rfl, trivial⟩, H0, ol [(0, _)], ⟨_, _, _, rfl, hr, rfl⟩, hO.row0 0 rfl⟩
theorem ledger_Find_1_ok {w0 : World} {H0 : IHeap} (hS : Sub H0 w0) {p0 : LedgerEntry} {q_0 : LedgerKey}  {A1_ : Option Addr} {c1_ : Nat} {a2_ : Addr} (h1_ : RS (eInt .i64) H0 A1_ c1_ p0.Vec) (h2_ : At eLedgerKey H0 a2_ q_0) {res : Bool} (hm0 : ledger_Find_1 p0 q_0 = some res) :
  Ok prog 133 [(.agg #[(.int .i64 p0.Key.Batch), (.int .i64 p0.Key.Layer), (.int .i64 p0.Key.Token), (.int .i64 p0.Key.Rank), (.slice A1_ p0.Vec.length c1_)]), (.pointer (some a2_))].toArray w0 H0 (fun H' v => v = (.bool res)) := by
 unfold ledger_Find_1 at hm0
 refine ok_of_W Tryz.func133 rfl Tryz.ntmps133 (ts := [3]) rfl rfl rfl ?_
 have hO := St.start hS
 refine seq (region (o_box 0 [(.int .i64 p0.Key.Batch), (.int .i64 p0.Key.Layer), (.int .i64 p0.Key.Token), (.int .i64 p0.Key.Rank), (.slice A1_ p0.Vec.length c1_)] hO rfl ?_))
 intro g1 w2 hO
 refine val (x_assign (.bool false) rfl) ?_
 refine nil (seq (region (val (x_fa rfl fo207_0) ?_)))
 refine val (x_lds 0 [(.int .i64 p0.Key.Batch), (.int .i64 p0.Key.Layer), (.int .i64 p0.Key.Token), (.int .i64 p0.Key.Rank)] hO rfl rfl agg171 rfl rfl) ?_
 obtain ⟨cs3, hr4, hc5⟩ := At.agg h2_
 obtain rfl := hr4
 refine val (x_ldv rfl (hc5 _ _ _ hO.sub agg171)) ?_
 refine val (x_eqst (k := .i64) (us := [p0.Key.Batch, p0.Key.Layer, p0.Key.Token, p0.Key.Rank]) (bs := [q_0.Batch, q_0.Layer, q_0.Token, q_0.Rank]) sti171 rfl rfl rfl rfl) ?_
 refine val (x_assign (.bool (ieqs [p0.Key.Batch, p0.Key.Layer, p0.Key.Token, p0.Key.Rank] [q_0.Batch, q_0.Layer, q_0.Token, q_0.Rank])) rfl) ?_
 refine nil (W.ret ?_)
 obtain rfl := sj hm0
 exact ⟨H0, rfl, hO.done⟩
theorem slices_IndexFunc_ledger_Entry_ledger_Find_1_ok {w0 : World} {H0 : IHeap} (hS : Sub H0 w0) {p0 : List LedgerEntry} {q1_0 : LedgerKey}  {A1_ : Option Addr} {c1_ : Nat} {a2_ : Addr} (h1_ : RS eLedgerEntry H0 A1_ c1_ p0) (h2_ : At eLedgerKey H0 a2_ q1_0) {res : Int} (hm0 : slices_IndexFunc_ledger_Entry_ledger_Find_1 p0 q1_0 = some res) :
  Ok prog 132 [(.slice A1_ p0.length c1_), (.func (.func 133) #[] #[(.pointer (some a2_))])].toArray w0 H0 (fun H' v => v = (.int .i64 res)) := by
 unfold slices_IndexFunc_ledger_Entry_ledger_Find_1 at hm0
 refine ok_of_W Tryz.func132 rfl Tryz.ntmps132 (ts := [4]) rfl rfl rfl ?_
 have hO := St.start hS
 refine seq (region (val (x_assign (.int .i64 0) rfl) ?_))
 refine nil (seq (seq (region (val (x_move (.slice A1_ p0.length c1_) rfl) ?_))))
 refine val (x_len rfl underlying88) ?_
 refine val (x_move (.int .i64 0) rfl) ?_
 refine nil ?_
 obtain ⟨o1, hm1, hm0⟩ := bindSome hm0
 have hO := hO.pick [] trivial
 refine W.blockLoop (fun r w => ∃ (i4 : Nat) (H2 : IHeap), .out () = o1 ∧ Le H0 H2 ∧ St w0 H0 [] H2 (ol []) w) (fun k r w => ∃ (i4 : Nat) (rest5 : List LedgerEntry) (H2 : IHeap), k = rest5.length ∧ List.drop i4 p0 = rest5 ∧ slices_IndexFunc_ledger_Entry_ledger_Find_1_l1 q1_0 rest5 i4 = some o1 ∧ Le H0 H2 ∧ St w0 H0 [] H2 (ol []) w ∧ r 0 = (.slice A1_ p0.length c1_) ∧ r 1 = (.func (.func 133) #[] #[(.pointer (some a2_))]) ∧ r 7 = (.int .i64 (p0.length : Int)) ∧ r 8 = (.int .i64 (i4 : Int))) (List.length p0) ?_ ?_ ?_
 ·exact ⟨0, _, _, rfl, rfl, hm1, Le.refl _, hO, rfl, rfl, rfl, rfl⟩
 ·
  intro k r w
  rintro ⟨i4, rest5, H2, rfl, hd7, hm1, le3, hO, f0_1, f1_1, f7_1, f8_1⟩
  cases rest5 with
  | nil =>
   rw [slices_IndexFunc_ledger_Entry_ledger_Find_1_l1] at hm1
   have hlt := drop_nil hd7
   refine seq (region (val (x_lss f8_1 f7_1) ?_))
   refine nil (seq (W.cond_f (kb rfl hlt) ?_))
   refine W.exit _ rfl ?_
   obtain rfl := sj hm1
   exact ⟨i4, H2, rfl, le3, hO.pick _ trivial⟩
  | cons x6 rest5 =>
   rw [slices_IndexFunc_ledger_Entry_ledger_Find_1_l1] at hm1
   have hlt := drop_lt hd7
   have hnx := drop_next hd7
   have hinc := inc_len hlt h1_.1 h1_.2.1
   refine seq (region (val (x_lss f8_1 f7_1) ?_))
   refine nil (seq (W.cond_t (kb rfl hlt) ?_))
   refine skip (seq (W.block ?_))
   refine seq (region (val (x_move (.int .i64 (i4 : Int)) f8_1) ?_))
   refine val (x_assign (.int .i64 (i4 : Int)) rfl) ?_
   refine nil (seq (region (val (x_move (.func (.func 133) #[] #[(.pointer (some a2_))]) f1_1) ?_)))
   refine val (x_move (.slice A1_ p0.length c1_) f0_1) ?_
   refine val (x_move (.int .i64 (i4 : Int)) rfl) ?_
   obtain ⟨a8, h9, hA10, hin⟩ := RS.atR (h1_.up le3) hd7
   refine val (x_ia (sA rfl hA10) rfl sle88 hin) ?_
   obtain ⟨cs11, hr12, hc13⟩ := At.agg h9
   obtain ⟨A14, c15, rfl, h16⟩ := hr12
   refine val (x_ldv rfl (hc13 _ _ _ hO.sub agg207)) ?_
   obtain ⟨t17, ht18, hm1⟩ := bindSome hm1
   refine o_callv (args := [(.agg #[(.int .i64 x6.Key.Batch), (.int .i64 x6.Key.Layer), (.int .i64 x6.Key.Token), (.int .i64 x6.Key.Rank), (.slice A14 x6.Vec.length c15)])]) (caps := [(.pointer (some a2_))]) hO rfl go133 (ledger_Find_1_ok hO.sub h16 (h2_.up le3) ht18) rfl ?_
   rintro _ H19 w20 le21 rfl hO
   refine nil (test rfl hm1 ?_ ?_)
   ·intro hb22 hm1
    refine seq (region (val (x_move (.int .i64 (i4 : Int)) rfl) ?_))
    refine val (x_assign (.int .i64 (i4 : Int)) rfl) ?_
    refine nil (W.ret ?_)
    obtain rfl := sj hm1
    dsimp only at hm0
    obtain rfl := sj hm0
    exact ⟨H19, rfl, hO.done⟩
   ·intro hb22 hm1
    refine skip (region (val (x_add f8_1 rfl) ?_))
    refine val (x_move (.int .i64 (i64w ((i4 : Int) + 1))) rfl) ?_
    refine nil ?_
    exact ⟨_, Nat.lt_succ_self _, i4 + 1, rest5, H19, rfl, hnx, hm1, (le3.trans le21), hO.pick _ trivial, f0_1, f1_1, f7_1, (incv hinc)⟩
 ·intro r w
  rintro ⟨i25, H23, rfl, le24, hO⟩
  dsimp only at hm0
  refine seq (region (val (x_assign (.int .i64 (-1)) rfl) ?_))
  refine nil (W.ret ?_)
  obtain rfl := sj hm0
  exact ⟨H23, rfl, hO.done⟩
theorem ledger_Find_ok {w0 : World} {H0 : IHeap} (hS : Sub H0 w0) {p0 : List LedgerEntry} {p1 : LedgerKey}  {A1_ : Option Addr} {c1_ : Nat} (h1_ : RS eLedgerEntry H0 A1_ c1_ p0) {res : (List Int) × Bool} (hm0 : ledger_Find p0 p1 = some res) :
  Ok prog 99 [(.slice A1_ p0.length c1_), (.agg #[(.int .i64 p1.Batch), (.int .i64 p1.Layer), (.int .i64 p1.Token), (.int .i64 p1.Rank)])].toArray w0 H0 (fun H' v => ∃ (A1 : Option Addr) (c1 : Nat), v = (.tuple #[(.slice A1 res.1.length c1), (.bool res.2)]) ∧ RS (eInt .i64) H' A1 c1 res.1) := by
 unfold ledger_Find at hm0
 refine ok_of_W Tryz.func99 rfl Tryz.ntmps99 (ts := [4, 5]) rfl rfl rfl ?_
 have hO := St.start hS
 refine seq (region (o_box 0 [(.int .i64 p1.Batch), (.int .i64 p1.Layer), (.int .i64 p1.Token), (.int .i64 p1.Rank)] hO rfl ?_))
 intro g1 w2 hO
 refine val (x_assign (.slice none 0 0) rfl) ?_
 refine val (x_assign (.bool false) rfl) ?_
 refine nil (seq (region (val (x_move (.slice A1_ p0.length c1_) rfl) ?_)))
 obtain ⟨H3, le4, h5, hO⟩ := hO.freezeBlk (en := eLedgerKey) (x := p1) 0 rfl rfl
 refine val (x_fun [(.pointer (some (⟨g1, 0, none⟩)))] rfl) ?_
 obtain ⟨t6, ht7, hm0⟩ := bindSome hm0
 refine o_call hO go132 (slices_IndexFunc_ledger_Entry_ledger_Find_1_ok hO.sub (h1_.up le4) h5 ht7) rfl ?_
 rintro _ H8 w9 le10 rfl hO
 refine val (x_assign (.int .i64 t6) rfl) ?_
 refine nil (seq (seq (region (val (x_move (.int .i64 t6) rfl) ?_))))
 refine val (x_lss rfl rfl) ?_
 refine nil (test rfl hm0 ?_ ?_)
 ·intro hb11 hm0
  refine seq (region (val (x_assign (.slice none 0 0) rfl) ?_))
  refine val (x_assign (.bool false) rfl) ?_
  refine nil (W.ret ?_)
  obtain rfl := sj hm0
  exact ⟨H8, ⟨none, 0, rfl, (RS.nil0 _ _)⟩, hO.done⟩
 ·intro hb11 hm0
  refine skip (seq (region (val (x_move (.slice A1_ p0.length c1_) rfl) ?_)))
  refine val (x_move (.int .i64 t6) rfl) ?_
  obtain ⟨hin15, hm0⟩ := chk hm0
  obtain ⟨a12, h13, hA14⟩ := RS.at_ (h1_.up (le4.trans le10)) hin15
  refine val (x_ia (sA rfl hA14) rfl sle88 hin15) ?_
  refine val (x_faAt rfl h13 fo207_1) ?_
  obtain ⟨A16, c17, h18, hc19⟩ := At.sl (h13.part pLedgerEntry_Vec)
  refine val (x_ldc rfl (hc19 _ hO.sub) one61) ?_
  obtain ⟨t20, ht21, hm0⟩ := bindSome hm0
  refine o_callO hO go113 (slices_Clone_int_ok hO.sub h18 ht21) rfl ?_
  rintro _ H22 O30 w23 le24 ⟨A25, c26, cs27, rfl, hr28, hk29⟩ hO'
  have hO := hO.callRow hO' 1 0 _ hk29; clear hO'
  refine val (x_assign (.slice A25 t20.length c26) rfl) ?_
  refine val (x_assign (.bool true) rfl) ?_
  refine nil (W.ret ?_)
  obtain ⟨H31, le32, h33, hO⟩ := hO.freezeRow (en := (eInt .i64)) 1 rfl rfl rfl hr28
  obtain rfl := sj hm0
  exact ⟨H31, ⟨A25, c26, rfl, h33⟩, hO.done⟩
theorem vec_Relu_1_ok {w0 : World} {H0 : IHeap} (hS : Sub H0 w0) {p0 : Int} {p1 : Int}    {res : Int} (hm0 : vec_Relu_1 p0 p1 = some res) :
  Ok prog 159 [(.int .i64 p0), (.int .i64 p1)].toArray w0 H0 (fun H' v => v = (.int .i64 res)) := by
 unfold vec_Relu_1 at hm0
 refine ok_of_W Tryz.func159 rfl Tryz.ntmps159 (ts := [4]) rfl rfl rfl ?_
 have hO := St.start hS
 refine seq (region (val (x_assign (.int .i64 0) rfl) ?_))
 refine nil (seq (region (val (x_move (.int .i64 p1) rfl) ?_)))
 obtain ⟨t1, ht2, hm0⟩ := bindSome hm0
 refine o_call hO go79 (fix_Hold_ok hO.sub  ht2) rfl ?_
 rintro _ H3 w4 le5 rfl hO
 refine val (x_max rfl rfl) ?_
 refine val (x_assign (.int .i64 (iMax t1 0)) rfl) ?_
 refine nil (W.ret ?_)
 obtain rfl := sj hm0
 exact ⟨H3, rfl, hO.done⟩
theorem vec_each_vec_Relu_1_ok {w0 : World} {H0 : IHeap} (hS : Sub H0 w0) {p0 : List Int}  {A1_ : Option Addr} {c1_ : Nat} (h1_ : RS (eInt .i64) H0 A1_ c1_ p0) {res : (List Int)} (hm0 : vec_each_vec_Relu_1 p0 = some res) :
  Ok prog 153 [(.slice A1_ p0.length c1_), (.func (.func 159) #[] #[])].toArray w0 H0 (fun H' v => ∃ (A1 : Option Addr) (c1 : Nat), v = (.slice A1 res.length c1) ∧ RS (eInt .i64) H' A1 c1 res) := by
 unfold vec_each_vec_Relu_1 at hm0
 refine ok_of_W Tryz.func153 rfl Tryz.ntmps153 (ts := [4]) rfl rfl rfl ?_
 have hO := St.start hS
 refine seq (region (val (x_assign (.slice none 0 0) rfl) ?_))
 refine nil (seq (region (val (x_assign (.slice none 0 0) rfl) ?_)))
 refine nil (seq (seq (region (val (x_move (.slice A1_ p0.length c1_) rfl) ?_))))
 refine val (x_len rfl underlying61) ?_
 refine val (x_move (.int .i64 0) rfl) ?_
 refine nil ?_
 have hO := hO.nilRowT (α := Int) 0 none 3 (eInt .i64)
 obtain ⟨o1, hm1, hm0⟩ := bindSome hm0
 have hO := hO.pick [(0, .row none 0 3 (eInt .i64).size ([] : List Int).length [])] ⟨rfl, trivial⟩
 refine W.blockLoop (fun r w => ∃ (v7 : List Int) (A8 : Option Addr) (c9 : Nat) (cs10 : List Value) (i4 : Nat) (H2 : IHeap), v7 = o1 ∧ Le H0 H2 ∧ St w0 H0 [] H2 (ol [(0, .row A8 c9 3 (eInt .i64).size v7.length cs10)]) w ∧ r 5 = (.slice A8 v7.length c9) ∧ Rows (eInt .i64) H2 cs10 v7) (fun k r w => ∃ (i4 : Nat) (rest5 : List Int) (v7 : List Int) (A8 : Option Addr) (c9 : Nat) (cs10 : List Value) (H2 : IHeap), k = rest5.length ∧ List.drop i4 p0 = rest5 ∧ vec_each_vec_Relu_1_l1 rest5 i4 v7 = some o1 ∧ Le H0 H2 ∧ St w0 H0 [] H2 (ol [(0, .row A8 c9 3 (eInt .i64).size v7.length cs10)]) w ∧ r 1 = (.func (.func 159) #[] #[]) ∧ r 5 = (.slice A8 v7.length c9) ∧ r 8 = (.slice A1_ p0.length c1_) ∧ r 9 = (.int .i64 (p0.length : Int)) ∧ r 10 = (.int .i64 (i4 : Int)) ∧ Rows (eInt .i64) H2 cs10 v7) (List.length p0) ?_ ?_ ?_
 ·exact ⟨0, _, ([] : List Int), none, 0, [], _, rfl, rfl, hm1, Le.refl _, hO, rfl, rfl, rfl, rfl, rfl, Rows.nil⟩
 ·
  intro k r w
  rintro ⟨i4, rest5, v7, A8, c9, cs10, H2, rfl, hd12, hm1, le3, hO, f1_1, f5_1, f8_1, f9_1, f10_1, h11⟩
  cases rest5 with
  | nil =>
   rw [vec_each_vec_Relu_1_l1] at hm1
   have hlt := drop_nil hd12
   refine seq (region (val (x_lss f10_1 f9_1) ?_))
   refine nil (seq (W.cond_f (kb rfl hlt) ?_))
   refine W.exit _ rfl ?_
   obtain rfl := sj hm1
   exact ⟨v7, A8, c9, cs10, i4, H2, rfl, le3, hO.pick _ ⟨rfl, trivial⟩, f5_1, h11⟩
  | cons x6 rest5 =>
   rw [vec_each_vec_Relu_1_l1] at hm1
   have hlt := drop_lt hd12
   have hnx := drop_next hd12
   have hinc := inc_len hlt h1_.1 h1_.2.1
   refine seq (region (val (x_lss f10_1 f9_1) ?_))
   refine nil (seq (W.cond_t (kb rfl hlt) ?_))
   refine skip (seq (W.block ?_))
   refine seq (region (val (x_move (.int .i64 (i4 : Int)) f10_1) ?_))
   obtain ⟨a13, h14, hA15, hin⟩ := RS.atR (h1_.up le3) hd12
   refine val (x_ia (sA f8_1 hA15) f10_1 sle61 hin) ?_
   refine val (x_ldc rfl (h14.int _ hO.sub) one3) ?_
   refine val (x_assign (.int .i64 (i4 : Int)) rfl) ?_
   refine val (x_assign (.int .i64 x6) rfl) ?_
   refine nil (region (val (x_move (.slice A8 v7.length c9) f5_1) ?_))
   refine val (x_move (.func (.func 159) #[] #[]) f1_1) ?_
   refine val (x_move (.int .i64 (i4 : Int)) rfl) ?_
   refine val (x_move (.int .i64 x6) rfl) ?_
   obtain ⟨t16, ht17, hm1⟩ := bindSome hm1
   refine o_callv (args := [(.int .i64 (i4 : Int)), (.int .i64 x6)]) (caps := []) hO rfl go159 (vec_Relu_1_ok hO.sub  ht17) rfl ?_
   rintro _ H18 w19 le20 rfl hO
   refine o_litT (en := (eInt .i64)) 1 [(.int .i64 t16)] ([t16] : List Int) hO sli61 ⟨rfl, trivial⟩ rfl rfl rfl ?_
   intro g21 cs22 w23 hr24 hO
   refine o_appT (en := (eInt .i64)) (xs := v7) (ys := ([t16] : List Int)) 0 hO rfl (h11.up le20) rfl rfl (Src.row (k := 1) hO rfl) hr24 sli61 rfl rfl underlying61 hm1 ?_
   intro A25 c26 cs27 w28 hr29 hO hm1
   refine val (x_assign (.slice A25 (v7 ++ ([t16] : List Int)).length c26) rfl) ?_
   refine nil (region (val (x_add f10_1 rfl) ?_))
   refine val (x_move (.int .i64 (i64w ((i4 : Int) + 1))) rfl) ?_
   refine nil ?_
   exact ⟨_, Nat.lt_succ_self _, i4 + 1, rest5, (v7 ++ ([t16] : List Int)), A25, c26, cs27, H18, rfl, hnx, hm1, (le3.trans le20), hO.pick _ ⟨rfl, trivial⟩, f1_1, rfl, f8_1, f9_1, (incv hinc), hr29⟩
 ·intro r w
  rintro ⟨v32, A33, c34, cs36, i37, H30, rfl, le31, hO, f38, h35⟩
  refine seq (region (val (x_move (.slice A33 v32.length c34) f38) ?_))
  refine val (x_assign (.slice A33 v32.length c34) rfl) ?_
  refine nil (W.ret ?_)
  obtain ⟨H39, le40, h41, hO⟩ := hO.freezeRow (en := (eInt .i64)) 0 rfl rfl rfl h35
  obtain rfl := sj hm0
  exact ⟨H39, ⟨A33, c34, rfl, h41⟩, hO.done⟩
theorem vec_Relu_ok {w0 : World} {H0 : IHeap} (hS : Sub H0 w0) {p0 : List Int}  {A1_ : Option Addr} {c1_ : Nat} (h1_ : RS (eInt .i64) H0 A1_ c1_ p0) {res : (List Int)} (hm0 : vec_Relu p0 = some res) :
  Ok prog 135 [(.slice A1_ p0.length c1_)].toArray w0 H0 (fun H' v => ∃ (A1 : Option Addr) (c1 : Nat), v = (.slice A1 res.length c1) ∧ RS (eInt .i64) H' A1 c1 res) := by
 unfold vec_Relu at hm0
 refine ok_of_W Tryz.func135 rfl Tryz.ntmps135 (ts := [2]) rfl rfl rfl ?_
 have hO := St.start hS
 refine seq (region (val (x_assign (.slice none 0 0) rfl) ?_))
 refine nil (seq (region (val (x_move (.slice A1_ p0.length c1_) rfl) ?_)))
 obtain ⟨t1, ht2, hm0⟩ := bindSome hm0
 refine o_call hO go153 (vec_each_vec_Relu_1_ok hO.sub h1_ ht2) rfl ?_
 rintro _ H3 w4 le5 ⟨A6, c7, rfl, h8⟩ hO
 refine val (x_assign (.slice A6 t1.length c7) rfl) ?_
 refine nil (W.ret ?_)
 obtain rfl := sj hm0
 exact ⟨H3, ⟨A6, c7, rfl, h8⟩, hO.done⟩
theorem expert_Run_ok {w0 : World} {H0 : IHeap} (hS : Sub H0 w0) {p0 : ApiExpert} {p1 : List Int}  {A1_ : Option Addr} {c1_ : Nat} {A2_ : Option Addr} {c2_ : Nat} {A3_ : Option Addr} {c3_ : Nat} (h1_ : RS (eSl (eInt .i64)) H0 A1_ c1_ p0.In) (h2_ : RS (eSl (eInt .i64)) H0 A2_ c2_ p0.Out) (h3_ : RS (eInt .i64) H0 A3_ c3_ p1) {res : (List Int) × Bool} (hm0 : expert_Run p0 p1 = some res) :
  Ok prog 100 [(.agg #[(.slice A1_ p0.In.length c1_), (.slice A2_ p0.Out.length c2_)]), (.slice A3_ p1.length c3_)].toArray w0 H0 (fun H' v => ∃ (A1 : Option Addr) (c1 : Nat), v = (.tuple #[(.slice A1 res.1.length c1), (.bool res.2)]) ∧ RS (eInt .i64) H' A1 c1 res.1) := by
 unfold expert_Run at hm0
 refine ok_of_W Tryz.func100 rfl Tryz.ntmps100 (ts := [4, 5]) rfl rfl rfl ?_
 have hO := St.start hS
 refine seq (region (o_box 0 [(.slice A1_ p0.In.length c1_), (.slice A2_ p0.Out.length c2_)] hO rfl ?_))
 intro g1 w2 hO
 refine val (x_assign (.slice none 0 0) rfl) ?_
 refine val (x_assign (.bool false) rfl) ?_
 refine nil (seq (seq (region (val (x_lds 0 [(.slice A1_ p0.In.length c1_), (.slice A2_ p0.Out.length c2_)] hO rfl rfl agg50 rfl rfl) ?_))))
 refine val (x_move (.slice A3_ p1.length c3_) rfl) ?_
 refine val (x_len rfl underlying61) ?_
 obtain ⟨t3, ht4, hm0⟩ := bindSome hm0
 refine o_call hO go55 (expert_Right_ok hO.sub h1_ h2_ ht4) rfl ?_
 rintro _ H5 w6 le7 rfl hO
 refine val (x_not rfl) ?_
 refine nil (test rfl hm0 ?_ ?_)
 ·intro hb8 hm0
  refine seq (region (val (x_assign (.slice none 0 0) rfl) ?_))
  refine val (x_assign (.bool false) rfl) ?_
  refine nil (W.ret ?_)
  obtain rfl := sj hm0
  exact ⟨H5, ⟨none, 0, rfl, (RS.nil0 _ _)⟩, hO.done⟩
 ·intro hb8 hm0
  refine skip (seq (region (val (x_fa rfl fo50_0) ?_)))
  refine val (x_ld 0 (.slice A1_ p0.In.length c1_) hO rfl rfl rfl one25) ?_
  refine val (x_move (.slice A3_ p1.length c3_) rfl) ?_
  obtain ⟨t9, ht10, hm0⟩ := bindSome hm0
  refine o_call hO go134 (mat_Apply_ok hO.sub (h1_.up le7) (h3_.up le7) ht10) rfl ?_
  rintro _ H11 w12 le13 ⟨A14, c15, rfl, h16⟩ hO
  refine val (x_move (.tuple #[(.slice A14 t9.1.length c15), (.bool t9.2)]) rfl) ?_
  refine val (x_extract (.slice A14 t9.1.length c15) rfl rfl) ?_
  refine val (x_extract (.bool t9.2) rfl rfl) ?_
  refine val (x_assign (.slice A14 t9.1.length c15) rfl) ?_
  refine val (x_assign (.bool t9.2) rfl) ?_
  refine nil (seq ?_)
  have hO := hO.pick [(0, .blk g1 [(.slice A1_ p0.In.length c1_), (.slice A2_ p0.Out.length c2_)] 50)] ⟨rfl, trivial⟩
  refine W.draw (SD w0 H0 [] H11 [(0, .blk g1 [(.slice A1_ p0.In.length c1_), (.slice A2_ p0.Out.length c2_)] 50)]) (fun i => ([] : List Nat).contains i) mixed 9 rfl _ rfl ?_
  intro w17 hh1 hh2 hh3 hh4; have hO := hO.same hh1 hh2 hh3 hh4; clear hh1 hh2 hh3 hh4
  have hS : SD w0 H0 [] H11 [(0, .blk g1 [(.slice A1_ p0.In.length c1_), (.slice A2_ p0.Out.length c2_)] 50)] w17 := ⟨_, _, Le.refl _, hO, ⟨rfl, trivial⟩⟩
  refine take (i := 0) rfl (by kernel_rfl) (fun w hS => x_fa rfl fo50_1) hS ?_
  refine take (i := 1) rfl (by kernel_rfl) (fun w hS => x_ldD 0 (.slice A2_ p0.Out.length c2_) hS rfl rfl rfl one25) hS ?_
  refine take (i := 2) rfl (by kernel_rfl) (fun w hS => x_move (.slice A14 t9.1.length c15) rfl) hS ?_
  refine WA.only (i := 3) (by kernel_rfl) rfl ?_
  obtain ⟨t18, ht19, hm0⟩ := bindSome hm0
  refine o_call hO go135 (vec_Relu_ok hO.sub h16 ht19) rfl ?_
  rintro _ H20 w21 le22 ⟨A23, c24, rfl, h25⟩ hO
  have hS : SD w0 H0 [] H11 [(0, .blk g1 [(.slice A1_ p0.In.length c1_), (.slice A2_ p0.Out.length c2_)] 50)] _ := ⟨_, _, le22, hO, ⟨rfl, trivial⟩⟩
  refine nil ⟨fun _ => hS, ?_⟩
  refine WA.only (i := 4) (by kernel_rfl) rfl ?_
  obtain ⟨t26, ht27, hm0⟩ := bindSome hm0
  refine o_call hO go134 (mat_Apply_ok hO.sub (h2_.up (le7.trans (le13.trans le22))) h25 ht27) rfl ?_
  rintro _ H28 w29 le30 ⟨A31, c32, rfl, h33⟩ hO
  have hS : SD w0 H0 [] H11 [(0, .blk g1 [(.slice A1_ p0.In.length c1_), (.slice A2_ p0.Out.length c2_)] 50)] _ := ⟨_, _, (le22.trans le30), hO, ⟨rfl, trivial⟩⟩
  refine nil ⟨fun _ => hS, ?_⟩
  refine take (i := 5) rfl (by kernel_rfl) (fun w hS => x_extract (.slice A31 t26.1.length c32) rfl rfl) hS ?_
  refine take (i := 6) rfl (by kernel_rfl) (fun w hS => x_extract (.bool t26.2) rfl rfl) hS ?_
  refine take (i := 7) rfl (by kernel_rfl) (fun w hS => x_assign (.slice A31 t26.1.length c32) rfl) hS ?_
  refine take (i := 8) rfl (by kernel_rfl) (fun w hS => x_assign (.bool t26.2) rfl) hS ?_
  refine WA.done (by kernel_rfl) ?_
  refine W.ret ?_
  obtain rfl := sj hm0
  exact ⟨H28, ⟨A31, c32, rfl, h33⟩, hO.done⟩
theorem slices_Clone_ledger_Entry_ok {w0 : World} {H0 : IHeap} (hS : Sub H0 w0) {p0 : List LedgerEntry} {A1_ : Option Addr} {c1_ : Nat} (h1_ : RS eLedgerEntry H0 A1_ c1_ p0) {res : List LedgerEntry} (hm0 : slices_Clone_ledger_Entry p0 = some res) :
  OkO prog 136 [(.slice A1_ p0.length c1_)].toArray w0 H0 (fun H' O' v => ∃ (A : Option Addr) (c : Nat) (cs : List Value), v = .slice A res.length c ∧ Rows eLedgerEntry H' cs res ∧ O' 0 = some (.row A c 207 eLedgerEntry.size res.length cs)) := by
 obtain ⟨hl, hm0⟩ := chk hm0
 obtain rfl := sj hm0
 refine okO_of_W Tryz.func136 rfl Tryz.ntmps136 (rs := [.tmp 2]) rfl rfl ?_
 have hO := St.start hS
 refine seq (region (val (x_assign (.slice none 0 0) rfl) ?_))
 refine nil (seq (seq (region (val (x_move (.slice A1_ p0.length c1_) rfl) ?_))))
 refine val (x_eqlnil underlying88 rfl rfl) ?_
 refine nil (W.cond A1_.isNone rfl (fun hb => ?_) (fun hb => ?_))
 ·have hx := h1_.isNone hb
  subst hx
  refine seq (region (val (x_assign (.slice none 0 0) rfl) ?_))
  refine nil (W.ret ?_)
  have hO := hO.nilRowT (α := LedgerEntry) 0 none 207 eLedgerEntry
  exact ⟨[_], ⟨rfl, trivial⟩, H0, ol [(0, _)], ⟨_, _, _, rfl, Rows.nil, rfl⟩, hO.row0 0 rfl⟩
 ·refine skip (seq (region (o_litT (en := eLedgerEntry) 0 [] ([] : List LedgerEntry) hO sli88 trivial rfl rfl rfl ?_)))
  intro g cs w hr hO
  refine val (x_move (.slice A1_ p0.length c1_) rfl) ?_
  obtain ⟨ce, hs, hr2⟩ := RS.src h1_ hO
  have hm1 : (bif lim (([] : List LedgerEntry).length + p0.length) then some () else none) = some () := by simp [hl]
  refine o_appT (en := eLedgerEntry) (xs := ([] : List LedgerEntry)) (ys := p0) 0 hO rfl hr rfl rfl hs hr2 sli88 rfl rfl underlying88 hm1 ?_
  intro A c cs w hr hO hm1
  refine val (x_assign (.slice A (([] : List LedgerEntry) ++ p0).length c) rfl) ?_
  refine nil (W.ret ?_)
  exact ⟨[_], ⟨rfl, trivial⟩, H0, ol [(0, _)], ⟨_, _, _, rfl, hr, rfl⟩, hO.row0 0 rfl⟩
theorem ledger_Enter_ok {w0 : World} {H0 : IHeap} (hS : Sub H0 w0) {p0 : List LedgerEntry} {p1 : LedgerKey} {p2 : List Int}  {A1_ : Option Addr} {c1_ : Nat} {A2_ : Option Addr} {c2_ : Nat} (h1_ : RS eLedgerEntry H0 A1_ c1_ p0) (h2_ : RS (eInt .i64) H0 A2_ c2_ p2) {res : (List LedgerEntry) × Bool} (hm0 : ledger_Enter p0 p1 p2 = some res) :
  Ok prog 101 [(.slice A1_ p0.length c1_), (.agg #[(.int .i64 p1.Batch), (.int .i64 p1.Layer), (.int .i64 p1.Token), (.int .i64 p1.Rank)]), (.slice A2_ p2.length c2_)].toArray w0 H0 (fun H' v => ∃ (A1 : Option Addr) (c1 : Nat), v = (.tuple #[(.slice A1 res.1.length c1), (.bool res.2)]) ∧ RS eLedgerEntry H' A1 c1 res.1) := by
 unfold ledger_Enter at hm0
 refine ok_of_W Tryz.func101 rfl Tryz.ntmps101 (ts := [6, 7]) rfl rfl rfl ?_
 have hO := St.start hS
 refine seq (region (o_box 0 [(.int .i64 p1.Batch), (.int .i64 p1.Layer), (.int .i64 p1.Token), (.int .i64 p1.Rank)] hO rfl ?_))
 intro g1 w2 hO
 refine val (x_assign (.slice none 0 0) rfl) ?_
 refine val (x_assign (.bool false) rfl) ?_
 refine nil (seq (seq (region (val (x_move (.slice A1_ p0.length c1_) rfl) ?_))))
 refine val (x_lds 0 [(.int .i64 p1.Batch), (.int .i64 p1.Layer), (.int .i64 p1.Token), (.int .i64 p1.Rank)] hO rfl rfl agg171 rfl rfl) ?_
 obtain ⟨t3, ht4, hm0⟩ := bindSome hm0
 refine o_call hO go99 (ledger_Find_ok hO.sub h1_ ht4) rfl ?_
 rintro _ H5 w6 le7 ⟨A8, c9, rfl, h10⟩ hO
 refine val (x_move (.tuple #[(.slice A8 t3.1.length c9), (.bool t3.2)]) rfl) ?_
 refine val (x_extract (.slice A8 t3.1.length c9) rfl rfl) ?_
 refine val (x_extract (.bool t3.2) rfl rfl) ?_
 refine val (x_assign (.slice A8 t3.1.length c9) rfl) ?_
 refine val (x_assign (.bool t3.2) rfl) ?_
 refine nil (seq (region (val (x_move (.bool t3.2) rfl) ?_)))
 refine nil (test rfl hm0 ?_ ?_)
 ·intro hb11 hm0
  refine seq (region (val (x_move (.slice A1_ p0.length c1_) rfl) ?_))
  refine val (x_assign (.slice A1_ p0.length c1_) rfl) ?_
  refine val (x_assign (.bool false) rfl) ?_
  refine nil (W.ret ?_)
  obtain rfl := sj hm0
  exact ⟨H5, ⟨A1_, c1_, rfl, (h1_.up le7)⟩, hO.done⟩
 ·intro hb11 hm0
  refine skip (seq ?_)
  have hO := hO.pick [(0, .blk g1 [(.int .i64 p1.Batch), (.int .i64 p1.Layer), (.int .i64 p1.Token), (.int .i64 p1.Rank)] 171)] ⟨rfl, trivial⟩
  refine W.draw (SD w0 H0 [] H5 [(0, .blk g1 [(.int .i64 p1.Batch), (.int .i64 p1.Layer), (.int .i64 p1.Token), (.int .i64 p1.Rank)] 171)]) (fun i => ([] : List Nat).contains i) mixed 10 rfl _ rfl ?_
  intro w12 hh1 hh2 hh3 hh4; have hO := hO.same hh1 hh2 hh3 hh4; clear hh1 hh2 hh3 hh4
  have hS : SD w0 H0 [] H5 [(0, .blk g1 [(.int .i64 p1.Batch), (.int .i64 p1.Layer), (.int .i64 p1.Token), (.int .i64 p1.Rank)] 171)] w12 := ⟨_, _, Le.refl _, hO, ⟨rfl, trivial⟩⟩
  refine take (i := 0) rfl (by kernel_rfl) (fun w hS => x_move (.slice A1_ p0.length c1_) rfl) hS ?_
  refine take (i := 2) rfl (by kernel_rfl) (fun w hS => x_ldsD 0 [(.int .i64 p1.Batch), (.int .i64 p1.Layer), (.int .i64 p1.Token), (.int .i64 p1.Rank)] hS rfl rfl agg171 rfl rfl) hS ?_
  refine take (i := 3) rfl (by kernel_rfl) (fun w hS => x_move (.slice A2_ p2.length c2_) rfl) hS ?_
  refine WA.only (i := 1) (by kernel_rfl) rfl ?_
  obtain ⟨t13, ht14, hm0⟩ := bindSome hm0
  refine o_callO hO go136 (slices_Clone_ledger_Entry_ok hO.sub (h1_.up le7) ht14) rfl ?_
  rintro _ H15 O23 w16 le17 ⟨A18, c19, cs20, rfl, hr21, hk22⟩ hO'
  have hO := hO.callRow hO' 1 0 _ hk22; clear hO'
  have hS : SD w0 H0 [] H5 [(0, .blk g1 [(.int .i64 p1.Batch), (.int .i64 p1.Layer), (.int .i64 p1.Token), (.int .i64 p1.Rank)] 171)] _ := ⟨_, _, le17, hO, ⟨rfl, trivial⟩⟩
  refine nil ⟨fun _ => hS, ?_⟩
  refine WA.only (i := 4) (by kernel_rfl) rfl ?_
  obtain ⟨t24, ht25, hm0⟩ := bindSome hm0
  refine o_callO hO go113 (slices_Clone_int_ok hO.sub (h2_.up (le7.trans le17)) ht25) rfl ?_
  rintro _ H26 O34 w27 le28 ⟨A29, c30, cs31, rfl, hr32, hk33⟩ hO'
  have hO := hO.callRow hO' 2 0 _ hk33; clear hO'
  have hS : SD w0 H0 [] H5 [(0, .blk g1 [(.int .i64 p1.Batch), (.int .i64 p1.Layer), (.int .i64 p1.Token), (.int .i64 p1.Rank)] 171)] _ := ⟨_, _, (le17.trans le28), hO, ⟨rfl, trivial⟩⟩
  refine nil ⟨fun _ => hS, ?_⟩
  refine take (i := 5) rfl (by kernel_rfl) (fun w hS => x_build [(0, (.agg #[(.int .i64 p1.Batch), (.int .i64 p1.Layer), (.int .i64 p1.Token), (.int .i64 p1.Rank)])), (1, (.slice A29 t24.length c30))] [(.int .i64 p1.Batch), (.int .i64 p1.Layer), (.int .i64 p1.Token), (.int .i64 p1.Rank), (.slice A29 t24.length c30)] ⟨rfl, rfl, rfl, rfl, trivial⟩ (by kernel_rfl)) hS ?_
  refine WA.only (i := 6) (by kernel_rfl) rfl ?_
  obtain ⟨H35, le36, h37, hO⟩ := hO.freezeRow (en := (eInt .i64)) 2 rfl rfl rfl hr32
  refine o_litT (en := eLedgerEntry) 3 [(.agg #[(.int .i64 p1.Batch), (.int .i64 p1.Layer), (.int .i64 p1.Token), (.int .i64 p1.Rank), (.slice A29 t24.length c30)])] ([(⟨(⟨p1.Batch, p1.Layer, p1.Token, p1.Rank⟩ : LedgerKey), t24⟩ : LedgerEntry)] : List LedgerEntry) hO sli88 ⟨⟨A29, c30, rfl, h37⟩, trivial⟩ rfl rfl rfl ?_
  intro g38 cs39 w40 hr41 hO
  have hS : SD w0 H0 [] H5 [(0, .blk g1 [(.int .i64 p1.Batch), (.int .i64 p1.Layer), (.int .i64 p1.Token), (.int .i64 p1.Rank)] 171)] _ := ⟨_, _, (le17.trans (le28.trans le36)), hO, ⟨rfl, trivial⟩⟩
  refine nil ⟨fun _ => hS, ?_⟩
  refine WA.only (i := 7) (by kernel_rfl) rfl ?_
  refine o_appT (en := eLedgerEntry) (xs := t13) (ys := ([(⟨(⟨p1.Batch, p1.Layer, p1.Token, p1.Rank⟩ : LedgerKey), t24⟩ : LedgerEntry)] : List LedgerEntry)) 1 hO rfl (hr21.up (le28.trans le36)) rfl rfl (Src.row (k := 3) hO rfl) hr41 sli88 rfl rfl underlying88 hm0 ?_
  intro A42 c43 cs44 w45 hr46 hO hm0
  have hS : SD w0 H0 [] H5 [(0, .blk g1 [(.int .i64 p1.Batch), (.int .i64 p1.Layer), (.int .i64 p1.Token), (.int .i64 p1.Rank)] 171)] _ := ⟨_, _, (le17.trans (le28.trans le36)), hO, ⟨rfl, trivial⟩⟩
  refine nil ⟨fun _ => hS, ?_⟩
  refine take (i := 8) rfl (by kernel_rfl) (fun w hS => x_assign (.slice A42 (t13 ++ ([(⟨(⟨p1.Batch, p1.Layer, p1.Token, p1.Rank⟩ : LedgerKey), t24⟩ : LedgerEntry)] : List LedgerEntry)).length c43) rfl) hS ?_
  refine take (i := 9) rfl (by kernel_rfl) (fun w hS => x_assign (.bool true) rfl) hS ?_
  refine WA.done (by kernel_rfl) ?_
  refine W.ret ?_
  obtain ⟨H47, le48, h49, hO⟩ := hO.freezeRow (en := eLedgerEntry) 1 rfl rfl rfl hr46
  obtain rfl := sj hm0
  exact ⟨H47, ⟨A42, c43, rfl, h49⟩, hO.done⟩
theorem node_Work_ok {w0 : World} {H0 : IHeap} (hS : Sub H0 w0) {p0 : ApiModel} {p1 : PlaceMap} {p2 : Int} {p3 : List LedgerEntry} {p4 : ApiMsg}  {A1_ : Option Addr} {c1_ : Nat} {A2_ : Option Addr} {c2_ : Nat} {A3_ : Option Addr} {c3_ : Nat} {A4_ : Option Addr} {c4_ : Nat} (h1_ : RS eApiLayer H0 A1_ c1_ p0.Layers) (h2_ : RS (eSl (eInt .i64)) H0 A2_ c2_ p1.Holders) (h3_ : RS eLedgerEntry H0 A3_ c3_ p3) (h4_ : RS (eInt .i64) H0 A4_ c4_ p4.Vec) {res : (List LedgerEntry) × ApiMsg × Bool} (hm0 : node_Work p0 p1 p2 p3 p4 = some res) :
  Ok prog 50 [(.agg #[(.int .i64 p0.Dim), (.slice A1_ p0.Layers.length c1_)]), (.agg #[(.int .i64 p1.Epoch), (.slice A2_ p1.Holders.length c2_)]), (.int .i64 p2), (.slice A3_ p3.length c3_), (.agg #[(.int .i64 p4.Kind), (.int .i64 p4.From), (.int .i64 p4.To), (.int .i64 p4.Seq), (.int .i64 p4.Batch), (.int .i64 p4.Layer), (.int .i64 p4.Token), (.int .i64 p4.Rank), (.int .i64 p4.Expert), (.int .i64 p4.Epoch), (.slice A4_ p4.Vec.length c4_)])].toArray w0 H0 (fun H' v => ∃ (A1 : Option Addr) (c1 : Nat) (A2 : Option Addr) (c2 : Nat), v = (.tuple #[(.slice A1 res.1.length c1), (.agg #[(.int .i64 res.2.1.Kind), (.int .i64 res.2.1.From), (.int .i64 res.2.1.To), (.int .i64 res.2.1.Seq), (.int .i64 res.2.1.Batch), (.int .i64 res.2.1.Layer), (.int .i64 res.2.1.Token), (.int .i64 res.2.1.Rank), (.int .i64 res.2.1.Expert), (.int .i64 res.2.1.Epoch), (.slice A2 res.2.1.Vec.length c2)]), (.bool res.2.2)]) ∧ RS eLedgerEntry H' A1 c1 res.1 ∧ RS (eInt .i64) H' A2 c2 res.2.1.Vec) := by
 unfold node_Work at hm0
 refine OkO.ok (okO_of_W Tryz.func50 rfl Tryz.ntmps50 (rs := [.tmp 10, .cell 11 109, .tmp 12]) rfl rfl ?_)
 have hO := St.start hS
 refine seq (region (o_box 0 [(.int .i64 p0.Dim), (.slice A1_ p0.Layers.length c1_)] hO rfl ?_))
 intro g1 w2 hO
 refine o_box 1 [(.int .i64 p1.Epoch), (.slice A2_ p1.Holders.length c2_)] hO rfl ?_
 intro g3 w4 hO
 refine o_box 2 [(.int .i64 p4.Kind), (.int .i64 p4.From), (.int .i64 p4.To), (.int .i64 p4.Seq), (.int .i64 p4.Batch), (.int .i64 p4.Layer), (.int .i64 p4.Token), (.int .i64 p4.Rank), (.int .i64 p4.Expert), (.int .i64 p4.Epoch), (.slice A4_ p4.Vec.length c4_)] hO rfl ?_
 intro g5 w6 hO
 refine val (x_assign (.slice none 0 0) rfl) ?_
 refine o_alloc 3 _ [(.int .i64 0), (.int .i64 0), (.int .i64 0), (.int .i64 0), (.int .i64 0), (.int .i64 0), (.int .i64 0), (.int .i64 0), (.int .i64 0), (.int .i64 0), (.slice none 0 0)] zer109 hO rfl ?_
 intro g7 w8 hO
 refine val (x_assign (.bool false) rfl) ?_
 refine nil (seq (seq (region (val (x_lds 0 [(.int .i64 p0.Dim), (.slice A1_ p0.Layers.length c1_)] hO rfl rfl agg24 rfl rfl) ?_))))
 refine val (x_lds 1 [(.int .i64 p1.Epoch), (.slice A2_ p1.Holders.length c2_)] hO rfl rfl agg27 rfl rfl) ?_
 refine val (x_move (.int .i64 p2) rfl) ?_
 refine val (x_lds 2 [(.int .i64 p4.Kind), (.int .i64 p4.From), (.int .i64 p4.To), (.int .i64 p4.Seq), (.int .i64 p4.Batch), (.int .i64 p4.Layer), (.int .i64 p4.Token), (.int .i64 p4.Rank), (.int .i64 p4.Expert), (.int .i64 p4.Epoch), (.slice A4_ p4.Vec.length c4_)] hO rfl rfl agg109 rfl rfl) ?_
 obtain ⟨t9, ht10, hm0⟩ := bindSome hm0
 refine o_call hO go97 (node_fits_ok hO.sub h1_ h2_ h4_ ht10) rfl ?_
 rintro _ H11 w12 le13 rfl hO
 refine val (x_not rfl) ?_
 refine nil (test rfl hm0 ?_ ?_)
 ·intro hb14 hm0
  refine seq (region (val (x_move (.slice A3_ p3.length c3_) rfl) ?_))
  refine val (x_build [] [(.int .i64 0), (.int .i64 0), (.int .i64 0), (.int .i64 0), (.int .i64 0), (.int .i64 0), (.int .i64 0), (.int .i64 0), (.int .i64 0), (.int .i64 0), (.slice none 0 0)] trivial (by kernel_rfl)) ?_
  refine val (x_assign (.slice A3_ p3.length c3_) rfl) ?_
  refine o_sts 3 [(.int .i64 0), (.int .i64 0), (.int .i64 0), (.int .i64 0), (.int .i64 0), (.int .i64 0), (.int .i64 0), (.int .i64 0), (.int .i64 0), (.int .i64 0), (.slice none 0 0)] hO rfl rfl rfl siz109 rfl (Nat.le_of_ble_eq_true rfl) (by simp [Value.oneCell', vs]) ?_
  intro w15 hO
  refine val (x_assign (.bool false) rfl) ?_
  refine nil (W.ret ?_)
  obtain rfl := sj hm0
  exact ⟨[(.slice A3_ p3.length c3_), (.agg #[(.int .i64 0), (.int .i64 0), (.int .i64 0), (.int .i64 0), (.int .i64 0), (.int .i64 0), (.int .i64 0), (.int .i64 0), (.int .i64 0), (.int .i64 0), (.slice none 0 0)]), (.bool false)], ⟨rfl, ⟨_, rfl, hO.ldBlk 3 rfl agg109 rfl rfl⟩, rfl, trivial⟩, H11, _, ⟨A3_, c3_, none, 0, rfl, (h3_.up le13), (RS.nil0 _ _)⟩, hO⟩
 ·intro hb14 hm0
  refine skip (seq (region (val (x_lds 2 [(.int .i64 p4.Kind), (.int .i64 p4.From), (.int .i64 p4.To), (.int .i64 p4.Seq), (.int .i64 p4.Batch), (.int .i64 p4.Layer), (.int .i64 p4.Token), (.int .i64 p4.Rank), (.int .i64 p4.Expert), (.int .i64 p4.Epoch), (.slice A4_ p4.Vec.length c4_)] hO rfl rfl agg109 rfl rfl) ?_)))
  refine o_alloc 4 _ [(.int .i64 0), (.int .i64 0), (.int .i64 0), (.int .i64 0), (.int .i64 0), (.int .i64 0), (.int .i64 0), (.int .i64 0), (.int .i64 0), (.int .i64 0), (.slice none 0 0)] zer109 hO rfl ?_
  intro g16 w17 hO
  refine o_sts 4 [(.int .i64 p4.Kind), (.int .i64 p4.From), (.int .i64 p4.To), (.int .i64 p4.Seq), (.int .i64 p4.Batch), (.int .i64 p4.Layer), (.int .i64 p4.Token), (.int .i64 p4.Rank), (.int .i64 p4.Expert), (.int .i64 p4.Epoch), (.slice A4_ p4.Vec.length c4_)] hO rfl rfl rfl siz109 rfl (Nat.le_of_ble_eq_true rfl) (by simp [Value.oneCell', vs]) ?_
  intro w18 hO
  refine nil (seq ?_)
  have hO := hO.pick [(0, .blk g1 [(.int .i64 p0.Dim), (.slice A1_ p0.Layers.length c1_)] 24), (1, .blk g3 [(.int .i64 p1.Epoch), (.slice A2_ p1.Holders.length c2_)] 27), (2, .blk g5 [(.int .i64 p4.Kind), (.int .i64 p4.From), (.int .i64 p4.To), (.int .i64 p4.Seq), (.int .i64 p4.Batch), (.int .i64 p4.Layer), (.int .i64 p4.Token), (.int .i64 p4.Rank), (.int .i64 p4.Expert), (.int .i64 p4.Epoch), (.slice A4_ p4.Vec.length c4_)] 109), (3, .blk g7 [(.int .i64 0), (.int .i64 0), (.int .i64 0), (.int .i64 0), (.int .i64 0), (.int .i64 0), (.int .i64 0), (.int .i64 0), (.int .i64 0), (.int .i64 0), (.slice none 0 0)] 109), (4, .blk g16 [(.int .i64 p4.Kind), (.int .i64 p4.From), (.int .i64 p4.To), (.int .i64 p4.Seq), (.int .i64 p4.Batch), (.int .i64 p4.Layer), (.int .i64 p4.Token), (.int .i64 p4.Rank), (.int .i64 p4.Expert), (.int .i64 p4.Epoch), (.slice A4_ p4.Vec.length c4_)] 109)] ⟨rfl, rfl, rfl, rfl, rfl, trivial⟩
  refine W.draw (SD w0 H0 [] H11 [(0, .blk g1 [(.int .i64 p0.Dim), (.slice A1_ p0.Layers.length c1_)] 24), (1, .blk g3 [(.int .i64 p1.Epoch), (.slice A2_ p1.Holders.length c2_)] 27), (2, .blk g5 [(.int .i64 p4.Kind), (.int .i64 p4.From), (.int .i64 p4.To), (.int .i64 p4.Seq), (.int .i64 p4.Batch), (.int .i64 p4.Layer), (.int .i64 p4.Token), (.int .i64 p4.Rank), (.int .i64 p4.Expert), (.int .i64 p4.Epoch), (.slice A4_ p4.Vec.length c4_)] 109), (3, .blk g7 [(.int .i64 0), (.int .i64 0), (.int .i64 0), (.int .i64 0), (.int .i64 0), (.int .i64 0), (.int .i64 0), (.int .i64 0), (.int .i64 0), (.int .i64 0), (.slice none 0 0)] 109)]) (fun i => ([] : List Nat).contains i) mixed 15 rfl _ rfl ?_
  intro w19 hh1 hh2 hh3 hh4; have hO := hO.same hh1 hh2 hh3 hh4; clear hh1 hh2 hh3 hh4
  have hS : SD w0 H0 [] H11 [(0, .blk g1 [(.int .i64 p0.Dim), (.slice A1_ p0.Layers.length c1_)] 24), (1, .blk g3 [(.int .i64 p1.Epoch), (.slice A2_ p1.Holders.length c2_)] 27), (2, .blk g5 [(.int .i64 p4.Kind), (.int .i64 p4.From), (.int .i64 p4.To), (.int .i64 p4.Seq), (.int .i64 p4.Batch), (.int .i64 p4.Layer), (.int .i64 p4.Token), (.int .i64 p4.Rank), (.int .i64 p4.Expert), (.int .i64 p4.Epoch), (.slice A4_ p4.Vec.length c4_)] 109), (3, .blk g7 [(.int .i64 0), (.int .i64 0), (.int .i64 0), (.int .i64 0), (.int .i64 0), (.int .i64 0), (.int .i64 0), (.int .i64 0), (.int .i64 0), (.int .i64 0), (.slice none 0 0)] 109)] w19 := ⟨_, _, Le.refl _, hO, ⟨rfl, rfl, rfl, rfl, trivial⟩⟩
  refine take (i := 0) rfl (by kernel_rfl) (fun w hS => x_move (.int .i64 p2) rfl) hS ?_
  refine take (i := 1) rfl (by kernel_rfl) (fun w hS => x_fa rfl fo109_1) hS ?_
  refine take (i := 2) rfl (by kernel_rfl) (fun w hS => x_ldD 2 (.int .i64 p4.From) hS rfl rfl rfl one3) hS ?_
  refine take (i := 3) rfl (by kernel_rfl) (fun w hS => x_fa rfl fo27_0) hS ?_
  refine take (i := 4) rfl (by kernel_rfl) (fun w hS => x_ldD 1 (.int .i64 p1.Epoch) hS rfl rfl rfl one3) hS ?_
  refine take (i := 5) rfl (by kernel_rfl) (fun w hS => x_fa rfl fo109_0) hS ?_
  refine WA.only (i := 6) (by kernel_rfl) rfl ?_
  refine o_st 4 (.int .i64 3) hO rfl rfl rfl rfl siz3 rfl ?_
  intro w20 hO
  have hS : SD w0 H0 [] H11 [(0, .blk g1 [(.int .i64 p0.Dim), (.slice A1_ p0.Layers.length c1_)] 24), (1, .blk g3 [(.int .i64 p1.Epoch), (.slice A2_ p1.Holders.length c2_)] 27), (2, .blk g5 [(.int .i64 p4.Kind), (.int .i64 p4.From), (.int .i64 p4.To), (.int .i64 p4.Seq), (.int .i64 p4.Batch), (.int .i64 p4.Layer), (.int .i64 p4.Token), (.int .i64 p4.Rank), (.int .i64 p4.Expert), (.int .i64 p4.Epoch), (.slice A4_ p4.Vec.length c4_)] 109), (3, .blk g7 [(.int .i64 0), (.int .i64 0), (.int .i64 0), (.int .i64 0), (.int .i64 0), (.int .i64 0), (.int .i64 0), (.int .i64 0), (.int .i64 0), (.int .i64 0), (.slice none 0 0)] 109)] _ := ⟨_, _, (Le.refl _), hO, ⟨rfl, rfl, rfl, rfl, trivial⟩⟩
  refine nil ⟨fun _ => hS, ?_⟩
  refine take (i := 7) rfl (by kernel_rfl) (fun w hS => x_fa rfl fo109_1) hS ?_
  refine WA.only (i := 8) (by kernel_rfl) rfl ?_
  refine o_st 4 (.int .i64 p2) hO rfl rfl rfl rfl siz3 rfl ?_
  intro w21 hO
  have hS : SD w0 H0 [] H11 [(0, .blk g1 [(.int .i64 p0.Dim), (.slice A1_ p0.Layers.length c1_)] 24), (1, .blk g3 [(.int .i64 p1.Epoch), (.slice A2_ p1.Holders.length c2_)] 27), (2, .blk g5 [(.int .i64 p4.Kind), (.int .i64 p4.From), (.int .i64 p4.To), (.int .i64 p4.Seq), (.int .i64 p4.Batch), (.int .i64 p4.Layer), (.int .i64 p4.Token), (.int .i64 p4.Rank), (.int .i64 p4.Expert), (.int .i64 p4.Epoch), (.slice A4_ p4.Vec.length c4_)] 109), (3, .blk g7 [(.int .i64 0), (.int .i64 0), (.int .i64 0), (.int .i64 0), (.int .i64 0), (.int .i64 0), (.int .i64 0), (.int .i64 0), (.int .i64 0), (.int .i64 0), (.slice none 0 0)] 109)] _ := ⟨_, _, (Le.refl _), hO, ⟨rfl, rfl, rfl, rfl, trivial⟩⟩
  refine nil ⟨fun _ => hS, ?_⟩
  refine take (i := 9) rfl (by kernel_rfl) (fun w hS => x_fa rfl fo109_2) hS ?_
  refine WA.only (i := 10) (by kernel_rfl) rfl ?_
  refine o_st 4 (.int .i64 p4.From) hO rfl rfl rfl rfl siz3 rfl ?_
  intro w22 hO
  have hS : SD w0 H0 [] H11 [(0, .blk g1 [(.int .i64 p0.Dim), (.slice A1_ p0.Layers.length c1_)] 24), (1, .blk g3 [(.int .i64 p1.Epoch), (.slice A2_ p1.Holders.length c2_)] 27), (2, .blk g5 [(.int .i64 p4.Kind), (.int .i64 p4.From), (.int .i64 p4.To), (.int .i64 p4.Seq), (.int .i64 p4.Batch), (.int .i64 p4.Layer), (.int .i64 p4.Token), (.int .i64 p4.Rank), (.int .i64 p4.Expert), (.int .i64 p4.Epoch), (.slice A4_ p4.Vec.length c4_)] 109), (3, .blk g7 [(.int .i64 0), (.int .i64 0), (.int .i64 0), (.int .i64 0), (.int .i64 0), (.int .i64 0), (.int .i64 0), (.int .i64 0), (.int .i64 0), (.int .i64 0), (.slice none 0 0)] 109)] _ := ⟨_, _, (Le.refl _), hO, ⟨rfl, rfl, rfl, rfl, trivial⟩⟩
  refine nil ⟨fun _ => hS, ?_⟩
  refine take (i := 11) rfl (by kernel_rfl) (fun w hS => x_fa rfl fo109_9) hS ?_
  refine WA.only (i := 12) (by kernel_rfl) rfl ?_
  refine o_st 4 (.int .i64 p1.Epoch) hO rfl rfl rfl rfl siz3 rfl ?_
  intro w23 hO
  have hS : SD w0 H0 [] H11 [(0, .blk g1 [(.int .i64 p0.Dim), (.slice A1_ p0.Layers.length c1_)] 24), (1, .blk g3 [(.int .i64 p1.Epoch), (.slice A2_ p1.Holders.length c2_)] 27), (2, .blk g5 [(.int .i64 p4.Kind), (.int .i64 p4.From), (.int .i64 p4.To), (.int .i64 p4.Seq), (.int .i64 p4.Batch), (.int .i64 p4.Layer), (.int .i64 p4.Token), (.int .i64 p4.Rank), (.int .i64 p4.Expert), (.int .i64 p4.Epoch), (.slice A4_ p4.Vec.length c4_)] 109), (3, .blk g7 [(.int .i64 0), (.int .i64 0), (.int .i64 0), (.int .i64 0), (.int .i64 0), (.int .i64 0), (.int .i64 0), (.int .i64 0), (.int .i64 0), (.int .i64 0), (.slice none 0 0)] 109)] _ := ⟨_, _, (Le.refl _), hO, ⟨rfl, rfl, rfl, rfl, trivial⟩⟩
  refine nil ⟨fun _ => hS, ?_⟩
  refine take (i := 13) rfl (by kernel_rfl) (fun w hS => x_fa rfl fo109_10) hS ?_
  refine WA.only (i := 14) (by kernel_rfl) rfl ?_
  refine o_st 4 (.slice none 0 0) hO rfl rfl rfl rfl siz61 rfl ?_
  intro w24 hO
  have hS : SD w0 H0 [] H11 [(0, .blk g1 [(.int .i64 p0.Dim), (.slice A1_ p0.Layers.length c1_)] 24), (1, .blk g3 [(.int .i64 p1.Epoch), (.slice A2_ p1.Holders.length c2_)] 27), (2, .blk g5 [(.int .i64 p4.Kind), (.int .i64 p4.From), (.int .i64 p4.To), (.int .i64 p4.Seq), (.int .i64 p4.Batch), (.int .i64 p4.Layer), (.int .i64 p4.Token), (.int .i64 p4.Rank), (.int .i64 p4.Expert), (.int .i64 p4.Epoch), (.slice A4_ p4.Vec.length c4_)] 109), (3, .blk g7 [(.int .i64 0), (.int .i64 0), (.int .i64 0), (.int .i64 0), (.int .i64 0), (.int .i64 0), (.int .i64 0), (.int .i64 0), (.int .i64 0), (.int .i64 0), (.slice none 0 0)] 109)] _ := ⟨_, _, (Le.refl _), hO, ⟨rfl, rfl, rfl, rfl, trivial⟩⟩
  refine nil ⟨fun _ => hS, ?_⟩
  refine WA.done (by kernel_rfl) ?_
  refine seq (seq (region (val (x_fa rfl fo109_9) ?_)))
  refine val (x_ld 2 (.int .i64 p4.Epoch) hO rfl rfl rfl one3) ?_
  refine val (x_fa rfl fo27_0) ?_
  refine val (x_ld 1 (.int .i64 p1.Epoch) hO rfl rfl rfl one3) ?_
  refine val (x_neq rfl rfl) ?_
  refine val (x_move (.bool (p4.Epoch != p1.Epoch)) rfl) ?_
  refine gval rfl rfl (fun hb => x_lds 1 [(.int .i64 p1.Epoch), (.slice A2_ p1.Holders.length c2_)] hO rfl rfl agg27 rfl rfl) ?_
  refine gval rfl rfl (fun hb => x_fa rfl fo109_8) ?_
  refine gval rfl rfl (fun hb => x_ld 2 (.int .i64 p4.Expert) hO rfl (gv hb) rfl one3) ?_
  refine gval rfl rfl (fun hb => x_move (.int .i64 p2) rfl) ?_
  rcases btest hm0 with ⟨hb25, hm0⟩ | ⟨hb25, hm0⟩
  ·refine no rfl (kb rfl hb25) rfl ?_
   refine no rfl (kb rfl hb25) rfl ?_
   refine val (x_pick_t (kb rfl hb25) (.bool true) rfl) ?_
   refine nil (W.cond_t rfl ?_)
   refine seq ?_
   have hO := hO.pick [(0, .blk g1 [(.int .i64 p0.Dim), (.slice A1_ p0.Layers.length c1_)] 24), (1, .blk g3 [(.int .i64 p1.Epoch), (.slice A2_ p1.Holders.length c2_)] 27), (2, .blk g5 [(.int .i64 p4.Kind), (.int .i64 p4.From), (.int .i64 p4.To), (.int .i64 p4.Seq), (.int .i64 p4.Batch), (.int .i64 p4.Layer), (.int .i64 p4.Token), (.int .i64 p4.Rank), (.int .i64 p4.Expert), (.int .i64 p4.Epoch), (.slice A4_ p4.Vec.length c4_)] 109), (3, .blk g7 [(.int .i64 0), (.int .i64 0), (.int .i64 0), (.int .i64 0), (.int .i64 0), (.int .i64 0), (.int .i64 0), (.int .i64 0), (.int .i64 0), (.int .i64 0), (.slice none 0 0)] 109), (4, .blk g16 [(.int .i64 3), (.int .i64 p2), (.int .i64 p4.From), (.int .i64 p4.Seq), (.int .i64 p4.Batch), (.int .i64 p4.Layer), (.int .i64 p4.Token), (.int .i64 p4.Rank), (.int .i64 p4.Expert), (.int .i64 p1.Epoch), (.slice none 0 0)] 109)] ⟨rfl, rfl, rfl, rfl, rfl, trivial⟩
   refine W.draw (SD w0 H0 [] H11 [(0, .blk g1 [(.int .i64 p0.Dim), (.slice A1_ p0.Layers.length c1_)] 24), (1, .blk g3 [(.int .i64 p1.Epoch), (.slice A2_ p1.Holders.length c2_)] 27), (2, .blk g5 [(.int .i64 p4.Kind), (.int .i64 p4.From), (.int .i64 p4.To), (.int .i64 p4.Seq), (.int .i64 p4.Batch), (.int .i64 p4.Layer), (.int .i64 p4.Token), (.int .i64 p4.Rank), (.int .i64 p4.Expert), (.int .i64 p4.Epoch), (.slice A4_ p4.Vec.length c4_)] 109), (3, .blk g7 [(.int .i64 0), (.int .i64 0), (.int .i64 0), (.int .i64 0), (.int .i64 0), (.int .i64 0), (.int .i64 0), (.int .i64 0), (.int .i64 0), (.int .i64 0), (.slice none 0 0)] 109), (4, .blk g16 [(.int .i64 3), (.int .i64 p2), (.int .i64 p4.From), (.int .i64 p4.Seq), (.int .i64 p4.Batch), (.int .i64 p4.Layer), (.int .i64 p4.Token), (.int .i64 p4.Rank), (.int .i64 p4.Expert), (.int .i64 p1.Epoch), (.slice none 0 0)] 109)]) (fun i => ([3, 4] : List Nat).contains i) mixed 5 rfl _ rfl ?_
   intro w26 hh1 hh2 hh3 hh4; have hO := hO.same hh1 hh2 hh3 hh4; clear hh1 hh2 hh3 hh4
   have hS : SD w0 H0 [] H11 [(0, .blk g1 [(.int .i64 p0.Dim), (.slice A1_ p0.Layers.length c1_)] 24), (1, .blk g3 [(.int .i64 p1.Epoch), (.slice A2_ p1.Holders.length c2_)] 27), (2, .blk g5 [(.int .i64 p4.Kind), (.int .i64 p4.From), (.int .i64 p4.To), (.int .i64 p4.Seq), (.int .i64 p4.Batch), (.int .i64 p4.Layer), (.int .i64 p4.Token), (.int .i64 p4.Rank), (.int .i64 p4.Expert), (.int .i64 p4.Epoch), (.slice A4_ p4.Vec.length c4_)] 109), (3, .blk g7 [(.int .i64 0), (.int .i64 0), (.int .i64 0), (.int .i64 0), (.int .i64 0), (.int .i64 0), (.int .i64 0), (.int .i64 0), (.int .i64 0), (.int .i64 0), (.slice none 0 0)] 109), (4, .blk g16 [(.int .i64 3), (.int .i64 p2), (.int .i64 p4.From), (.int .i64 p4.Seq), (.int .i64 p4.Batch), (.int .i64 p4.Layer), (.int .i64 p4.Token), (.int .i64 p4.Rank), (.int .i64 p4.Expert), (.int .i64 p1.Epoch), (.slice none 0 0)] 109)] w26 := ⟨_, _, Le.refl _, hO, ⟨rfl, rfl, rfl, rfl, rfl, trivial⟩⟩
   refine take (i := 0) rfl (by kernel_rfl) (fun w hS => x_move (.slice A3_ p3.length c3_) rfl) hS ?_
   refine take (i := 1) rfl (by kernel_rfl) (fun w hS => x_ldsD 4 [(.int .i64 3), (.int .i64 p2), (.int .i64 p4.From), (.int .i64 p4.Seq), (.int .i64 p4.Batch), (.int .i64 p4.Layer), (.int .i64 p4.Token), (.int .i64 p4.Rank), (.int .i64 p4.Expert), (.int .i64 p1.Epoch), (.slice none 0 0)] hS rfl rfl agg109 rfl rfl) hS ?_
   refine take (i := 2) rfl (by kernel_rfl) (fun w hS => x_assign (.slice A3_ p3.length c3_) rfl) hS ?_
   refine WA.only (i := 3) (by kernel_rfl) rfl ?_
   refine o_sts 3 [(.int .i64 3), (.int .i64 p2), (.int .i64 p4.From), (.int .i64 p4.Seq), (.int .i64 p4.Batch), (.int .i64 p4.Layer), (.int .i64 p4.Token), (.int .i64 p4.Rank), (.int .i64 p4.Expert), (.int .i64 p1.Epoch), (.slice none 0 0)] hO rfl rfl rfl siz109 rfl (Nat.le_of_ble_eq_true rfl) (by simp [Value.oneCell', vs]) ?_
   intro w27 hO
   refine nil ⟨fun h => absurd h (by decide), ?_⟩
   refine WA.only (i := 4) (by kernel_rfl) rfl ?_
   refine val (x_assign (.bool true) rfl) ?_
   refine nil ⟨fun h => absurd h (by decide), ?_⟩
   refine WA.done (by kernel_rfl) ?_
   refine W.ret ?_
   obtain rfl := sj hm0
   exact ⟨[(.slice A3_ p3.length c3_), (.agg #[(.int .i64 3), (.int .i64 p2), (.int .i64 p4.From), (.int .i64 p4.Seq), (.int .i64 p4.Batch), (.int .i64 p4.Layer), (.int .i64 p4.Token), (.int .i64 p4.Rank), (.int .i64 p4.Expert), (.int .i64 p1.Epoch), (.slice none 0 0)]), (.bool true)], ⟨rfl, ⟨_, rfl, hO.ldBlk 3 rfl agg109 rfl rfl⟩, rfl, trivial⟩, H11, _, ⟨A3_, c3_, none, 0, rfl, (h3_.up le13), (RS.nil0 _ _)⟩, hO⟩
  ·refine yes rfl (kb rfl hb25) ?_
   obtain ⟨t28, ht29, hm0⟩ := bindSome hm0
   refine o_call hO go98 (place_Holds_ok hO.sub (h2_.up le13) ht29) (args3 (by exact gkF hb25) (by exact gkF hb25) (by exact gkF hb25)) ?_
   rintro _ H30 w31 le32 rfl hO
   refine yes rfl (kb rfl hb25) ?_
   refine val (x_not rfl) ?_
   refine val (x_pick_f (kb rfl hb25) (.bool (!t28)) rfl) ?_
   refine nil (test rfl hm0 ?_ ?_)
   ·intro hb33 hm0
    refine seq ?_
    have hO := hO.pick [(0, .blk g1 [(.int .i64 p0.Dim), (.slice A1_ p0.Layers.length c1_)] 24), (1, .blk g3 [(.int .i64 p1.Epoch), (.slice A2_ p1.Holders.length c2_)] 27), (2, .blk g5 [(.int .i64 p4.Kind), (.int .i64 p4.From), (.int .i64 p4.To), (.int .i64 p4.Seq), (.int .i64 p4.Batch), (.int .i64 p4.Layer), (.int .i64 p4.Token), (.int .i64 p4.Rank), (.int .i64 p4.Expert), (.int .i64 p4.Epoch), (.slice A4_ p4.Vec.length c4_)] 109), (3, .blk g7 [(.int .i64 0), (.int .i64 0), (.int .i64 0), (.int .i64 0), (.int .i64 0), (.int .i64 0), (.int .i64 0), (.int .i64 0), (.int .i64 0), (.int .i64 0), (.slice none 0 0)] 109), (4, .blk g16 [(.int .i64 3), (.int .i64 p2), (.int .i64 p4.From), (.int .i64 p4.Seq), (.int .i64 p4.Batch), (.int .i64 p4.Layer), (.int .i64 p4.Token), (.int .i64 p4.Rank), (.int .i64 p4.Expert), (.int .i64 p1.Epoch), (.slice none 0 0)] 109)] ⟨rfl, rfl, rfl, rfl, rfl, trivial⟩
    refine W.draw (SD w0 H0 [] H30 [(0, .blk g1 [(.int .i64 p0.Dim), (.slice A1_ p0.Layers.length c1_)] 24), (1, .blk g3 [(.int .i64 p1.Epoch), (.slice A2_ p1.Holders.length c2_)] 27), (2, .blk g5 [(.int .i64 p4.Kind), (.int .i64 p4.From), (.int .i64 p4.To), (.int .i64 p4.Seq), (.int .i64 p4.Batch), (.int .i64 p4.Layer), (.int .i64 p4.Token), (.int .i64 p4.Rank), (.int .i64 p4.Expert), (.int .i64 p4.Epoch), (.slice A4_ p4.Vec.length c4_)] 109), (3, .blk g7 [(.int .i64 0), (.int .i64 0), (.int .i64 0), (.int .i64 0), (.int .i64 0), (.int .i64 0), (.int .i64 0), (.int .i64 0), (.int .i64 0), (.int .i64 0), (.slice none 0 0)] 109), (4, .blk g16 [(.int .i64 3), (.int .i64 p2), (.int .i64 p4.From), (.int .i64 p4.Seq), (.int .i64 p4.Batch), (.int .i64 p4.Layer), (.int .i64 p4.Token), (.int .i64 p4.Rank), (.int .i64 p4.Expert), (.int .i64 p1.Epoch), (.slice none 0 0)] 109)]) (fun i => ([3, 4] : List Nat).contains i) mixed 5 rfl _ rfl ?_
    intro w34 hh1 hh2 hh3 hh4; have hO := hO.same hh1 hh2 hh3 hh4; clear hh1 hh2 hh3 hh4
    have hS : SD w0 H0 [] H30 [(0, .blk g1 [(.int .i64 p0.Dim), (.slice A1_ p0.Layers.length c1_)] 24), (1, .blk g3 [(.int .i64 p1.Epoch), (.slice A2_ p1.Holders.length c2_)] 27), (2, .blk g5 [(.int .i64 p4.Kind), (.int .i64 p4.From), (.int .i64 p4.To), (.int .i64 p4.Seq), (.int .i64 p4.Batch), (.int .i64 p4.Layer), (.int .i64 p4.Token), (.int .i64 p4.Rank), (.int .i64 p4.Expert), (.int .i64 p4.Epoch), (.slice A4_ p4.Vec.length c4_)] 109), (3, .blk g7 [(.int .i64 0), (.int .i64 0), (.int .i64 0), (.int .i64 0), (.int .i64 0), (.int .i64 0), (.int .i64 0), (.int .i64 0), (.int .i64 0), (.int .i64 0), (.slice none 0 0)] 109), (4, .blk g16 [(.int .i64 3), (.int .i64 p2), (.int .i64 p4.From), (.int .i64 p4.Seq), (.int .i64 p4.Batch), (.int .i64 p4.Layer), (.int .i64 p4.Token), (.int .i64 p4.Rank), (.int .i64 p4.Expert), (.int .i64 p1.Epoch), (.slice none 0 0)] 109)] w34 := ⟨_, _, Le.refl _, hO, ⟨rfl, rfl, rfl, rfl, rfl, trivial⟩⟩
    refine take (i := 0) rfl (by kernel_rfl) (fun w hS => x_move (.slice A3_ p3.length c3_) rfl) hS ?_
    refine take (i := 1) rfl (by kernel_rfl) (fun w hS => x_ldsD 4 [(.int .i64 3), (.int .i64 p2), (.int .i64 p4.From), (.int .i64 p4.Seq), (.int .i64 p4.Batch), (.int .i64 p4.Layer), (.int .i64 p4.Token), (.int .i64 p4.Rank), (.int .i64 p4.Expert), (.int .i64 p1.Epoch), (.slice none 0 0)] hS rfl rfl agg109 rfl rfl) hS ?_
    refine take (i := 2) rfl (by kernel_rfl) (fun w hS => x_assign (.slice A3_ p3.length c3_) rfl) hS ?_
    refine WA.only (i := 3) (by kernel_rfl) rfl ?_
    refine o_sts 3 [(.int .i64 3), (.int .i64 p2), (.int .i64 p4.From), (.int .i64 p4.Seq), (.int .i64 p4.Batch), (.int .i64 p4.Layer), (.int .i64 p4.Token), (.int .i64 p4.Rank), (.int .i64 p4.Expert), (.int .i64 p1.Epoch), (.slice none 0 0)] hO rfl rfl rfl siz109 rfl (Nat.le_of_ble_eq_true rfl) (by simp [Value.oneCell', vs]) ?_
    intro w35 hO
    refine nil ⟨fun h => absurd h (by decide), ?_⟩
    refine WA.only (i := 4) (by kernel_rfl) rfl ?_
    refine val (x_assign (.bool true) rfl) ?_
    refine nil ⟨fun h => absurd h (by decide), ?_⟩
    refine WA.done (by kernel_rfl) ?_
    refine W.ret ?_
    obtain rfl := sj hm0
    exact ⟨[(.slice A3_ p3.length c3_), (.agg #[(.int .i64 3), (.int .i64 p2), (.int .i64 p4.From), (.int .i64 p4.Seq), (.int .i64 p4.Batch), (.int .i64 p4.Layer), (.int .i64 p4.Token), (.int .i64 p4.Rank), (.int .i64 p4.Expert), (.int .i64 p1.Epoch), (.slice none 0 0)]), (.bool true)], ⟨rfl, ⟨_, rfl, hO.ldBlk 3 rfl agg109 rfl rfl⟩, rfl, trivial⟩, H30, _, ⟨A3_, c3_, none, 0, rfl, (h3_.up (le13.trans le32)), (RS.nil0 _ _)⟩, hO⟩
   ·intro hb33 hm0
    refine skip (seq (region (val (x_fa rfl fo109_4) ?_)))
    refine val (x_ld 2 (.int .i64 p4.Batch) hO rfl rfl rfl one3) ?_
    refine val (x_fa rfl fo109_5) ?_
    refine val (x_ld 2 (.int .i64 p4.Layer) hO rfl rfl rfl one3) ?_
    refine val (x_fa rfl fo109_6) ?_
    refine val (x_ld 2 (.int .i64 p4.Token) hO rfl rfl rfl one3) ?_
    refine val (x_fa rfl fo109_7) ?_
    refine val (x_ld 2 (.int .i64 p4.Rank) hO rfl rfl rfl one3) ?_
    refine val (x_build [(0, (.int .i64 p4.Batch)), (1, (.int .i64 p4.Layer)), (2, (.int .i64 p4.Token)), (3, (.int .i64 p4.Rank))] [(.int .i64 p4.Batch), (.int .i64 p4.Layer), (.int .i64 p4.Token), (.int .i64 p4.Rank)] ⟨rfl, rfl, rfl, rfl, rfl, rfl, rfl, rfl, trivial⟩ (by kernel_rfl)) ?_
    refine o_alloc 5 _ [(.int .i64 0), (.int .i64 0), (.int .i64 0), (.int .i64 0)] zer171 hO rfl ?_
    intro g36 w37 hO
    refine o_sts 5 [(.int .i64 p4.Batch), (.int .i64 p4.Layer), (.int .i64 p4.Token), (.int .i64 p4.Rank)] hO rfl rfl rfl siz171 rfl (Nat.le_of_ble_eq_true rfl) (by simp [Value.oneCell', vs]) ?_
    intro w38 hO
    refine nil (seq (region (val (x_move (.slice A3_ p3.length c3_) rfl) ?_)))
    refine val (x_lds 5 [(.int .i64 p4.Batch), (.int .i64 p4.Layer), (.int .i64 p4.Token), (.int .i64 p4.Rank)] hO rfl rfl agg171 rfl rfl) ?_
    obtain ⟨t39, ht40, hm0⟩ := bindSome hm0
    refine o_call hO go99 (ledger_Find_ok hO.sub (h3_.up (le13.trans le32)) ht40) rfl ?_
    rintro _ H41 w42 le43 ⟨A44, c45, rfl, h46⟩ hO
    refine val (x_move (.tuple #[(.slice A44 t39.1.length c45), (.bool t39.2)]) rfl) ?_
    refine val (x_extract (.slice A44 t39.1.length c45) rfl rfl) ?_
    refine val (x_extract (.bool t39.2) rfl rfl) ?_
    refine val (x_assign (.slice A44 t39.1.length c45) rfl) ?_
    refine val (x_assign (.bool t39.2) rfl) ?_
    refine nil (seq (seq (region (val (x_move (.bool t39.2) rfl) ?_))))
    refine val (x_not rfl) ?_
    refine nil (test rfl hm0 ?_ ?_)
    ·intro hb47 hm0
     refine seq ?_
     have hO := hO.pick [(0, .blk g1 [(.int .i64 p0.Dim), (.slice A1_ p0.Layers.length c1_)] 24), (1, .blk g3 [(.int .i64 p1.Epoch), (.slice A2_ p1.Holders.length c2_)] 27), (2, .blk g5 [(.int .i64 p4.Kind), (.int .i64 p4.From), (.int .i64 p4.To), (.int .i64 p4.Seq), (.int .i64 p4.Batch), (.int .i64 p4.Layer), (.int .i64 p4.Token), (.int .i64 p4.Rank), (.int .i64 p4.Expert), (.int .i64 p4.Epoch), (.slice A4_ p4.Vec.length c4_)] 109), (3, .blk g7 [(.int .i64 0), (.int .i64 0), (.int .i64 0), (.int .i64 0), (.int .i64 0), (.int .i64 0), (.int .i64 0), (.int .i64 0), (.int .i64 0), (.int .i64 0), (.slice none 0 0)] 109), (4, .blk g16 [(.int .i64 3), (.int .i64 p2), (.int .i64 p4.From), (.int .i64 p4.Seq), (.int .i64 p4.Batch), (.int .i64 p4.Layer), (.int .i64 p4.Token), (.int .i64 p4.Rank), (.int .i64 p4.Expert), (.int .i64 p1.Epoch), (.slice none 0 0)] 109), (5, .blk g36 [(.int .i64 p4.Batch), (.int .i64 p4.Layer), (.int .i64 p4.Token), (.int .i64 p4.Rank)] 171)] ⟨rfl, rfl, rfl, rfl, rfl, rfl, trivial⟩
     refine W.draw (SD w0 H0 [] H41 [(0, .blk g1 [(.int .i64 p0.Dim), (.slice A1_ p0.Layers.length c1_)] 24), (1, .blk g3 [(.int .i64 p1.Epoch), (.slice A2_ p1.Holders.length c2_)] 27), (2, .blk g5 [(.int .i64 p4.Kind), (.int .i64 p4.From), (.int .i64 p4.To), (.int .i64 p4.Seq), (.int .i64 p4.Batch), (.int .i64 p4.Layer), (.int .i64 p4.Token), (.int .i64 p4.Rank), (.int .i64 p4.Expert), (.int .i64 p4.Epoch), (.slice A4_ p4.Vec.length c4_)] 109), (3, .blk g7 [(.int .i64 0), (.int .i64 0), (.int .i64 0), (.int .i64 0), (.int .i64 0), (.int .i64 0), (.int .i64 0), (.int .i64 0), (.int .i64 0), (.int .i64 0), (.slice none 0 0)] 109), (4, .blk g16 [(.int .i64 3), (.int .i64 p2), (.int .i64 p4.From), (.int .i64 p4.Seq), (.int .i64 p4.Batch), (.int .i64 p4.Layer), (.int .i64 p4.Token), (.int .i64 p4.Rank), (.int .i64 p4.Expert), (.int .i64 p1.Epoch), (.slice none 0 0)] 109), (5, .blk g36 [(.int .i64 p4.Batch), (.int .i64 p4.Layer), (.int .i64 p4.Token), (.int .i64 p4.Rank)] 171)]) (fun i => ([] : List Nat).contains i) mixed 18 rfl _ rfl ?_
     intro w48 hh1 hh2 hh3 hh4; have hO := hO.same hh1 hh2 hh3 hh4; clear hh1 hh2 hh3 hh4
     have hS : SD w0 H0 [] H41 [(0, .blk g1 [(.int .i64 p0.Dim), (.slice A1_ p0.Layers.length c1_)] 24), (1, .blk g3 [(.int .i64 p1.Epoch), (.slice A2_ p1.Holders.length c2_)] 27), (2, .blk g5 [(.int .i64 p4.Kind), (.int .i64 p4.From), (.int .i64 p4.To), (.int .i64 p4.Seq), (.int .i64 p4.Batch), (.int .i64 p4.Layer), (.int .i64 p4.Token), (.int .i64 p4.Rank), (.int .i64 p4.Expert), (.int .i64 p4.Epoch), (.slice A4_ p4.Vec.length c4_)] 109), (3, .blk g7 [(.int .i64 0), (.int .i64 0), (.int .i64 0), (.int .i64 0), (.int .i64 0), (.int .i64 0), (.int .i64 0), (.int .i64 0), (.int .i64 0), (.int .i64 0), (.slice none 0 0)] 109), (4, .blk g16 [(.int .i64 3), (.int .i64 p2), (.int .i64 p4.From), (.int .i64 p4.Seq), (.int .i64 p4.Batch), (.int .i64 p4.Layer), (.int .i64 p4.Token), (.int .i64 p4.Rank), (.int .i64 p4.Expert), (.int .i64 p1.Epoch), (.slice none 0 0)] 109), (5, .blk g36 [(.int .i64 p4.Batch), (.int .i64 p4.Layer), (.int .i64 p4.Token), (.int .i64 p4.Rank)] 171)] w48 := ⟨_, _, Le.refl _, hO, ⟨rfl, rfl, rfl, rfl, rfl, rfl, trivial⟩⟩
     refine take (i := 0) rfl (by kernel_rfl) (fun w hS => x_fa rfl fo24_1) hS ?_
     refine take (i := 1) rfl (by kernel_rfl) (fun w hS => x_ldD 0 (.slice A1_ p0.Layers.length c1_) hS rfl rfl rfl one22) hS ?_
     refine take (i := 2) rfl (by kernel_rfl) (fun w hS => x_fa rfl fo109_5) hS ?_
     refine take (i := 3) rfl (by kernel_rfl) (fun w hS => x_ldD 2 (.int .i64 p4.Layer) hS rfl rfl rfl one3) hS ?_
     obtain ⟨hin52, hm0⟩ := chk hm0
     obtain ⟨a49, h50, hA51⟩ := RS.at_ (h1_.up (le13.trans (le32.trans le43))) hin52
     refine take (i := 4) rfl (by kernel_rfl) (fun w hS => x_ia (sA rfl hA51) rfl sle22 hin52) hS ?_
     refine take (i := 5) rfl (by kernel_rfl) (fun w hS => x_faAt rfl h50 fo41_1) hS ?_
     obtain ⟨A53, c54, h55, hc56⟩ := At.sl (h50.part pApiLayer_Experts)
     refine take (i := 6) rfl (by kernel_rfl) (fun w hS => x_ldc rfl (hc56 _ hS.sub) one39) hS ?_
     refine take (i := 7) rfl (by kernel_rfl) (fun w hS => x_fa rfl fo109_8) hS ?_
     refine take (i := 8) rfl (by kernel_rfl) (fun w hS => x_ldD 2 (.int .i64 p4.Expert) hS rfl rfl rfl one3) hS ?_
     obtain ⟨hin60, hm0⟩ := chk hm0
     obtain ⟨a57, h58, hA59⟩ := RS.at_ h55 hin60
     refine take (i := 9) rfl (by kernel_rfl) (fun w hS => x_ia (sA rfl hA59) rfl sle39 hin60) hS ?_
     obtain ⟨cs61, hr62, hc63⟩ := At.agg h58
     obtain ⟨A64, c65, A67, c68, rfl, h66, h69⟩ := hr62
     refine take (i := 10) rfl (by kernel_rfl) (fun w hS => x_ldv rfl (hc63 _ _ _ hS.sub agg50)) hS ?_
     refine take (i := 11) rfl (by kernel_rfl) (fun w hS => x_fa rfl fo109_10) hS ?_
     refine take (i := 12) rfl (by kernel_rfl) (fun w hS => x_ldD 2 (.slice A4_ p4.Vec.length c4_) hS rfl rfl rfl one61) hS ?_
     refine WA.only (i := 13) (by kernel_rfl) rfl ?_
     obtain ⟨t70, ht71, hm0⟩ := bindSome hm0
     refine o_call hO go100 (expert_Run_ok hO.sub h66 h69 (h4_.up (le13.trans (le32.trans le43))) ht71) rfl ?_
     rintro _ H72 w73 le74 ⟨A75, c76, rfl, h77⟩ hO
     have hS : SD w0 H0 [] H41 [(0, .blk g1 [(.int .i64 p0.Dim), (.slice A1_ p0.Layers.length c1_)] 24), (1, .blk g3 [(.int .i64 p1.Epoch), (.slice A2_ p1.Holders.length c2_)] 27), (2, .blk g5 [(.int .i64 p4.Kind), (.int .i64 p4.From), (.int .i64 p4.To), (.int .i64 p4.Seq), (.int .i64 p4.Batch), (.int .i64 p4.Layer), (.int .i64 p4.Token), (.int .i64 p4.Rank), (.int .i64 p4.Expert), (.int .i64 p4.Epoch), (.slice A4_ p4.Vec.length c4_)] 109), (3, .blk g7 [(.int .i64 0), (.int .i64 0), (.int .i64 0), (.int .i64 0), (.int .i64 0), (.int .i64 0), (.int .i64 0), (.int .i64 0), (.int .i64 0), (.int .i64 0), (.slice none 0 0)] 109), (4, .blk g16 [(.int .i64 3), (.int .i64 p2), (.int .i64 p4.From), (.int .i64 p4.Seq), (.int .i64 p4.Batch), (.int .i64 p4.Layer), (.int .i64 p4.Token), (.int .i64 p4.Rank), (.int .i64 p4.Expert), (.int .i64 p1.Epoch), (.slice none 0 0)] 109), (5, .blk g36 [(.int .i64 p4.Batch), (.int .i64 p4.Layer), (.int .i64 p4.Token), (.int .i64 p4.Rank)] 171)] _ := ⟨_, _, le74, hO, ⟨rfl, rfl, rfl, rfl, rfl, rfl, trivial⟩⟩
     refine nil ⟨fun _ => hS, ?_⟩
     refine take (i := 14) rfl (by kernel_rfl) (fun w hS => x_move (.tuple #[(.slice A75 t70.1.length c76), (.bool t70.2)]) rfl) hS ?_
     refine take (i := 15) rfl (by kernel_rfl) (fun w hS => x_extract (.slice A75 t70.1.length c76) rfl rfl) hS ?_
     refine take (i := 16) rfl (by kernel_rfl) (fun w hS => x_extract (.bool t70.2) rfl rfl) hS ?_
     refine take (i := 17) rfl (by kernel_rfl) (fun w hS => x_assign (.slice A75 t70.1.length c76) rfl) hS ?_
     refine WA.done (by kernel_rfl) ?_
     refine region (val (x_move (.slice A3_ p3.length c3_) rfl) ?_)
     refine val (x_lds 5 [(.int .i64 p4.Batch), (.int .i64 p4.Layer), (.int .i64 p4.Token), (.int .i64 p4.Rank)] hO rfl rfl agg171 rfl rfl) ?_
     refine val (x_move (.slice A75 t70.1.length c76) rfl) ?_
     obtain ⟨t78, ht79, hm0⟩ := bindSome hm0
     refine o_call hO go101 (ledger_Enter_ok hO.sub (h3_.up (le13.trans (le32.trans (le43.trans le74)))) h77 ht79) rfl ?_
     rintro _ H80 w81 le82 ⟨A83, c84, rfl, h85⟩ hO
     refine val (x_move (.tuple #[(.slice A83 t78.1.length c84), (.bool t78.2)]) rfl) ?_
     refine val (x_extract (.slice A83 t78.1.length c84) rfl rfl) ?_
     refine val (x_extract (.bool t78.2) rfl rfl) ?_
     refine val (x_assign (.slice A83 t78.1.length c84) rfl) ?_
     refine nil (seq (region (val (x_move (.slice A75 t70.1.length c76) rfl) ?_)))
     refine val (x_fa rfl fo109_0) ?_
     refine o_st 4 (.int .i64 2) hO rfl rfl rfl rfl siz3 rfl ?_
     intro w86 hO
     refine val (x_fa rfl fo109_10) ?_
     refine o_st 4 (.slice A75 t70.1.length c76) hO rfl rfl rfl rfl siz61 rfl ?_
     intro w87 hO
     refine nil (seq ?_)
     have hO := hO.pick [(0, .blk g1 [(.int .i64 p0.Dim), (.slice A1_ p0.Layers.length c1_)] 24), (1, .blk g3 [(.int .i64 p1.Epoch), (.slice A2_ p1.Holders.length c2_)] 27), (2, .blk g5 [(.int .i64 p4.Kind), (.int .i64 p4.From), (.int .i64 p4.To), (.int .i64 p4.Seq), (.int .i64 p4.Batch), (.int .i64 p4.Layer), (.int .i64 p4.Token), (.int .i64 p4.Rank), (.int .i64 p4.Expert), (.int .i64 p4.Epoch), (.slice A4_ p4.Vec.length c4_)] 109), (3, .blk g7 [(.int .i64 0), (.int .i64 0), (.int .i64 0), (.int .i64 0), (.int .i64 0), (.int .i64 0), (.int .i64 0), (.int .i64 0), (.int .i64 0), (.int .i64 0), (.slice none 0 0)] 109), (4, .blk g16 [(.int .i64 2), (.int .i64 p2), (.int .i64 p4.From), (.int .i64 p4.Seq), (.int .i64 p4.Batch), (.int .i64 p4.Layer), (.int .i64 p4.Token), (.int .i64 p4.Rank), (.int .i64 p4.Expert), (.int .i64 p1.Epoch), (.slice A75 t70.1.length c76)] 109), (5, .blk g36 [(.int .i64 p4.Batch), (.int .i64 p4.Layer), (.int .i64 p4.Token), (.int .i64 p4.Rank)] 171)] ⟨rfl, rfl, rfl, rfl, rfl, rfl, trivial⟩
     refine W.draw (SD w0 H0 [] H80 [(0, .blk g1 [(.int .i64 p0.Dim), (.slice A1_ p0.Layers.length c1_)] 24), (1, .blk g3 [(.int .i64 p1.Epoch), (.slice A2_ p1.Holders.length c2_)] 27), (2, .blk g5 [(.int .i64 p4.Kind), (.int .i64 p4.From), (.int .i64 p4.To), (.int .i64 p4.Seq), (.int .i64 p4.Batch), (.int .i64 p4.Layer), (.int .i64 p4.Token), (.int .i64 p4.Rank), (.int .i64 p4.Expert), (.int .i64 p4.Epoch), (.slice A4_ p4.Vec.length c4_)] 109), (3, .blk g7 [(.int .i64 0), (.int .i64 0), (.int .i64 0), (.int .i64 0), (.int .i64 0), (.int .i64 0), (.int .i64 0), (.int .i64 0), (.int .i64 0), (.int .i64 0), (.slice none 0 0)] 109), (4, .blk g16 [(.int .i64 2), (.int .i64 p2), (.int .i64 p4.From), (.int .i64 p4.Seq), (.int .i64 p4.Batch), (.int .i64 p4.Layer), (.int .i64 p4.Token), (.int .i64 p4.Rank), (.int .i64 p4.Expert), (.int .i64 p1.Epoch), (.slice A75 t70.1.length c76)] 109), (5, .blk g36 [(.int .i64 p4.Batch), (.int .i64 p4.Layer), (.int .i64 p4.Token), (.int .i64 p4.Rank)] 171)]) (fun i => ([3, 4] : List Nat).contains i) mixed 5 rfl _ rfl ?_
     intro w88 hh1 hh2 hh3 hh4; have hO := hO.same hh1 hh2 hh3 hh4; clear hh1 hh2 hh3 hh4
     have hS : SD w0 H0 [] H80 [(0, .blk g1 [(.int .i64 p0.Dim), (.slice A1_ p0.Layers.length c1_)] 24), (1, .blk g3 [(.int .i64 p1.Epoch), (.slice A2_ p1.Holders.length c2_)] 27), (2, .blk g5 [(.int .i64 p4.Kind), (.int .i64 p4.From), (.int .i64 p4.To), (.int .i64 p4.Seq), (.int .i64 p4.Batch), (.int .i64 p4.Layer), (.int .i64 p4.Token), (.int .i64 p4.Rank), (.int .i64 p4.Expert), (.int .i64 p4.Epoch), (.slice A4_ p4.Vec.length c4_)] 109), (3, .blk g7 [(.int .i64 0), (.int .i64 0), (.int .i64 0), (.int .i64 0), (.int .i64 0), (.int .i64 0), (.int .i64 0), (.int .i64 0), (.int .i64 0), (.int .i64 0), (.slice none 0 0)] 109), (4, .blk g16 [(.int .i64 2), (.int .i64 p2), (.int .i64 p4.From), (.int .i64 p4.Seq), (.int .i64 p4.Batch), (.int .i64 p4.Layer), (.int .i64 p4.Token), (.int .i64 p4.Rank), (.int .i64 p4.Expert), (.int .i64 p1.Epoch), (.slice A75 t70.1.length c76)] 109), (5, .blk g36 [(.int .i64 p4.Batch), (.int .i64 p4.Layer), (.int .i64 p4.Token), (.int .i64 p4.Rank)] 171)] w88 := ⟨_, _, Le.refl _, hO, ⟨rfl, rfl, rfl, rfl, rfl, rfl, trivial⟩⟩
     refine take (i := 0) rfl (by kernel_rfl) (fun w hS => x_move (.slice A83 t78.1.length c84) rfl) hS ?_
     refine take (i := 1) rfl (by kernel_rfl) (fun w hS => x_ldsD 4 [(.int .i64 2), (.int .i64 p2), (.int .i64 p4.From), (.int .i64 p4.Seq), (.int .i64 p4.Batch), (.int .i64 p4.Layer), (.int .i64 p4.Token), (.int .i64 p4.Rank), (.int .i64 p4.Expert), (.int .i64 p1.Epoch), (.slice A75 t70.1.length c76)] hS rfl rfl agg109 rfl rfl) hS ?_
     refine take (i := 2) rfl (by kernel_rfl) (fun w hS => x_assign (.slice A83 t78.1.length c84) rfl) hS ?_
     refine WA.only (i := 3) (by kernel_rfl) rfl ?_
     refine o_sts 3 [(.int .i64 2), (.int .i64 p2), (.int .i64 p4.From), (.int .i64 p4.Seq), (.int .i64 p4.Batch), (.int .i64 p4.Layer), (.int .i64 p4.Token), (.int .i64 p4.Rank), (.int .i64 p4.Expert), (.int .i64 p1.Epoch), (.slice A75 t70.1.length c76)] hO rfl rfl rfl siz109 rfl (Nat.le_of_ble_eq_true rfl) (by simp [Value.oneCell', vs]) ?_
     intro w89 hO
     refine nil ⟨fun h => absurd h (by decide), ?_⟩
     refine WA.only (i := 4) (by kernel_rfl) rfl ?_
     refine val (x_assign (.bool true) rfl) ?_
     refine nil ⟨fun h => absurd h (by decide), ?_⟩
     refine WA.done (by kernel_rfl) ?_
     refine W.ret ?_
     obtain rfl := sj hm0
     exact ⟨[(.slice A83 t78.1.length c84), (.agg #[(.int .i64 2), (.int .i64 p2), (.int .i64 p4.From), (.int .i64 p4.Seq), (.int .i64 p4.Batch), (.int .i64 p4.Layer), (.int .i64 p4.Token), (.int .i64 p4.Rank), (.int .i64 p4.Expert), (.int .i64 p1.Epoch), (.slice A75 t70.1.length c76)]), (.bool true)], ⟨rfl, ⟨_, rfl, hO.ldBlk 3 rfl agg109 rfl rfl⟩, rfl, trivial⟩, H80, _, ⟨A83, c84, A75, c76, rfl, h85, (h77.up le82)⟩, hO⟩
    ·intro hb47 hm0
     refine skip (seq (region (val (x_move (.slice A44 t39.1.length c45) rfl) ?_)))
     refine val (x_fa rfl fo109_0) ?_
     refine o_st 4 (.int .i64 2) hO rfl rfl rfl rfl siz3 rfl ?_
     intro w90 hO
     refine val (x_fa rfl fo109_10) ?_
     refine o_st 4 (.slice A44 t39.1.length c45) hO rfl rfl rfl rfl siz61 rfl ?_
     intro w91 hO
     refine nil (seq ?_)
     have hO := hO.pick [(0, .blk g1 [(.int .i64 p0.Dim), (.slice A1_ p0.Layers.length c1_)] 24), (1, .blk g3 [(.int .i64 p1.Epoch), (.slice A2_ p1.Holders.length c2_)] 27), (2, .blk g5 [(.int .i64 p4.Kind), (.int .i64 p4.From), (.int .i64 p4.To), (.int .i64 p4.Seq), (.int .i64 p4.Batch), (.int .i64 p4.Layer), (.int .i64 p4.Token), (.int .i64 p4.Rank), (.int .i64 p4.Expert), (.int .i64 p4.Epoch), (.slice A4_ p4.Vec.length c4_)] 109), (3, .blk g7 [(.int .i64 0), (.int .i64 0), (.int .i64 0), (.int .i64 0), (.int .i64 0), (.int .i64 0), (.int .i64 0), (.int .i64 0), (.int .i64 0), (.int .i64 0), (.slice none 0 0)] 109), (4, .blk g16 [(.int .i64 2), (.int .i64 p2), (.int .i64 p4.From), (.int .i64 p4.Seq), (.int .i64 p4.Batch), (.int .i64 p4.Layer), (.int .i64 p4.Token), (.int .i64 p4.Rank), (.int .i64 p4.Expert), (.int .i64 p1.Epoch), (.slice A44 t39.1.length c45)] 109), (5, .blk g36 [(.int .i64 p4.Batch), (.int .i64 p4.Layer), (.int .i64 p4.Token), (.int .i64 p4.Rank)] 171)] ⟨rfl, rfl, rfl, rfl, rfl, rfl, trivial⟩
     refine W.draw (SD w0 H0 [] H41 [(0, .blk g1 [(.int .i64 p0.Dim), (.slice A1_ p0.Layers.length c1_)] 24), (1, .blk g3 [(.int .i64 p1.Epoch), (.slice A2_ p1.Holders.length c2_)] 27), (2, .blk g5 [(.int .i64 p4.Kind), (.int .i64 p4.From), (.int .i64 p4.To), (.int .i64 p4.Seq), (.int .i64 p4.Batch), (.int .i64 p4.Layer), (.int .i64 p4.Token), (.int .i64 p4.Rank), (.int .i64 p4.Expert), (.int .i64 p4.Epoch), (.slice A4_ p4.Vec.length c4_)] 109), (3, .blk g7 [(.int .i64 0), (.int .i64 0), (.int .i64 0), (.int .i64 0), (.int .i64 0), (.int .i64 0), (.int .i64 0), (.int .i64 0), (.int .i64 0), (.int .i64 0), (.slice none 0 0)] 109), (4, .blk g16 [(.int .i64 2), (.int .i64 p2), (.int .i64 p4.From), (.int .i64 p4.Seq), (.int .i64 p4.Batch), (.int .i64 p4.Layer), (.int .i64 p4.Token), (.int .i64 p4.Rank), (.int .i64 p4.Expert), (.int .i64 p1.Epoch), (.slice A44 t39.1.length c45)] 109), (5, .blk g36 [(.int .i64 p4.Batch), (.int .i64 p4.Layer), (.int .i64 p4.Token), (.int .i64 p4.Rank)] 171)]) (fun i => ([3, 4] : List Nat).contains i) mixed 5 rfl _ rfl ?_
     intro w92 hh1 hh2 hh3 hh4; have hO := hO.same hh1 hh2 hh3 hh4; clear hh1 hh2 hh3 hh4
     have hS : SD w0 H0 [] H41 [(0, .blk g1 [(.int .i64 p0.Dim), (.slice A1_ p0.Layers.length c1_)] 24), (1, .blk g3 [(.int .i64 p1.Epoch), (.slice A2_ p1.Holders.length c2_)] 27), (2, .blk g5 [(.int .i64 p4.Kind), (.int .i64 p4.From), (.int .i64 p4.To), (.int .i64 p4.Seq), (.int .i64 p4.Batch), (.int .i64 p4.Layer), (.int .i64 p4.Token), (.int .i64 p4.Rank), (.int .i64 p4.Expert), (.int .i64 p4.Epoch), (.slice A4_ p4.Vec.length c4_)] 109), (3, .blk g7 [(.int .i64 0), (.int .i64 0), (.int .i64 0), (.int .i64 0), (.int .i64 0), (.int .i64 0), (.int .i64 0), (.int .i64 0), (.int .i64 0), (.int .i64 0), (.slice none 0 0)] 109), (4, .blk g16 [(.int .i64 2), (.int .i64 p2), (.int .i64 p4.From), (.int .i64 p4.Seq), (.int .i64 p4.Batch), (.int .i64 p4.Layer), (.int .i64 p4.Token), (.int .i64 p4.Rank), (.int .i64 p4.Expert), (.int .i64 p1.Epoch), (.slice A44 t39.1.length c45)] 109), (5, .blk g36 [(.int .i64 p4.Batch), (.int .i64 p4.Layer), (.int .i64 p4.Token), (.int .i64 p4.Rank)] 171)] w92 := ⟨_, _, Le.refl _, hO, ⟨rfl, rfl, rfl, rfl, rfl, rfl, trivial⟩⟩
     refine take (i := 0) rfl (by kernel_rfl) (fun w hS => x_move (.slice A3_ p3.length c3_) rfl) hS ?_
     refine take (i := 1) rfl (by kernel_rfl) (fun w hS => x_ldsD 4 [(.int .i64 2), (.int .i64 p2), (.int .i64 p4.From), (.int .i64 p4.Seq), (.int .i64 p4.Batch), (.int .i64 p4.Layer), (.int .i64 p4.Token), (.int .i64 p4.Rank), (.int .i64 p4.Expert), (.int .i64 p1.Epoch), (.slice A44 t39.1.length c45)] hS rfl rfl agg109 rfl rfl) hS ?_
     refine take (i := 2) rfl (by kernel_rfl) (fun w hS => x_assign (.slice A3_ p3.length c3_) rfl) hS ?_
     refine WA.only (i := 3) (by kernel_rfl) rfl ?_
     refine o_sts 3 [(.int .i64 2), (.int .i64 p2), (.int .i64 p4.From), (.int .i64 p4.Seq), (.int .i64 p4.Batch), (.int .i64 p4.Layer), (.int .i64 p4.Token), (.int .i64 p4.Rank), (.int .i64 p4.Expert), (.int .i64 p1.Epoch), (.slice A44 t39.1.length c45)] hO rfl rfl rfl siz109 rfl (Nat.le_of_ble_eq_true rfl) (by simp [Value.oneCell', vs]) ?_
     intro w93 hO
     refine nil ⟨fun h => absurd h (by decide), ?_⟩
     refine WA.only (i := 4) (by kernel_rfl) rfl ?_
     refine val (x_assign (.bool true) rfl) ?_
     refine nil ⟨fun h => absurd h (by decide), ?_⟩
     refine WA.done (by kernel_rfl) ?_
     refine W.ret ?_
     obtain rfl := sj hm0
     exact ⟨[(.slice A3_ p3.length c3_), (.agg #[(.int .i64 2), (.int .i64 p2), (.int .i64 p4.From), (.int .i64 p4.Seq), (.int .i64 p4.Batch), (.int .i64 p4.Layer), (.int .i64 p4.Token), (.int .i64 p4.Rank), (.int .i64 p4.Expert), (.int .i64 p1.Epoch), (.slice A44 t39.1.length c45)]), (.bool true)], ⟨rfl, ⟨_, rfl, hO.ldBlk 3 rfl agg109 rfl rfl⟩, rfl, trivial⟩, H41, _, ⟨A3_, c3_, A44, c45, rfl, (h3_.up (le13.trans (le32.trans le43))), h46⟩, hO⟩
end Go.Sw

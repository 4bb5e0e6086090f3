/- The functions' mirrors: pure Lean. -/
import Derived.Test.YtahaedoeckgidaaGreatSwDel
set_option linter.unusedVariables false
set_option linter.unusedSimpArgs false
namespace Go.Sw
structure ApiExpert where
 In : List (List Int)
 Out : List (List Int)
 deriving Inhabited, DecidableEq
def eApiExpert : Enc ApiExpert where
 size := 2
 rep H cs x := ∃ A1 c1 A2 c2, cs = [.slice A1 x.In.length c1, .slice A2 x.Out.length c2] ∧ RS (eSl (eInt .i64)) H A1 c1 x.In ∧ RS (eSl (eInt .i64)) H A2 c2 x.Out
 len := by rintro H cs x ⟨A1, c1, A2, c2, rfl, h1, h2⟩; rfl
 one := by rintro H cs x ⟨A1, c1, A2, c2, rfl, h1, h2⟩ v hv; simp only [List.mem_cons, or_false, List.not_mem_nil] at hv; rcases hv with rfl | rfl <;> rfl
 mono := by rintro H H' cs x hl ⟨A1, c1, A2, c2, rfl, h1, h2⟩; exact ⟨A1, c1, A2, c2, rfl, h1.up hl, h2.up hl⟩
structure ApiLayer where
 Gate : List (List Int)
 Experts : List ApiExpert
 Capacity : Int
 deriving Inhabited, DecidableEq
def eApiLayer : Enc ApiLayer where
 size := 3
 rep H cs x := ∃ A1 c1 A2 c2, cs = [.slice A1 x.Gate.length c1, .slice A2 x.Experts.length c2, .int .i64 x.Capacity] ∧ RS (eSl (eInt .i64)) H A1 c1 x.Gate ∧ RS eApiExpert H A2 c2 x.Experts
 len := by rintro H cs x ⟨A1, c1, A2, c2, rfl, h1, h2⟩; rfl
 one := by rintro H cs x ⟨A1, c1, A2, c2, rfl, h1, h2⟩ v hv; simp only [List.mem_cons, or_false, List.not_mem_nil] at hv; rcases hv with rfl | rfl | rfl <;> rfl
 mono := by rintro H H' cs x hl ⟨A1, c1, A2, c2, rfl, h1, h2⟩; exact ⟨A1, c1, A2, c2, rfl, h1.up hl, h2.up hl⟩
theorem pApiLayer_Experts : Part eApiLayer 1 (eSl eApiExpert) (·.Experts) := by rintro H cs x ⟨A1, c1, A2, c2, rfl, h1, h2⟩; exact ⟨[.slice A2 x.Experts.length c2], ⟨_, _, rfl, h2⟩, part_take (m := 1) rfl⟩
structure ApiModel where
 Dim : Int
 Layers : List ApiLayer
 deriving Inhabited, DecidableEq
def eApiModel : Enc ApiModel where
 size := 2
 rep H cs x := ∃ A1 c1, cs = [.int .i64 x.Dim, .slice A1 x.Layers.length c1] ∧ RS eApiLayer H A1 c1 x.Layers
 len := by rintro H cs x ⟨A1, c1, rfl, h1⟩; rfl
 one := by rintro H cs x ⟨A1, c1, rfl, h1⟩ v hv; simp only [List.mem_cons, or_false, List.not_mem_nil] at hv; rcases hv with rfl | rfl <;> rfl
 mono := by rintro H H' cs x hl ⟨A1, c1, rfl, h1⟩; exact ⟨A1, c1, rfl, h1.up hl⟩
theorem pApiModel_Dim : Part eApiModel 0 (eInt .i64) (·.Dim) := by rintro H cs x ⟨A1, c1, rfl, h1⟩; exact ⟨[.int .i64 x.Dim], rfl, part_take (m := 1) rfl⟩
theorem pApiModel_Layers : Part eApiModel 1 (eSl eApiLayer) (·.Layers) := by rintro H cs x ⟨A1, c1, rfl, h1⟩; exact ⟨[.slice A1 x.Layers.length c1], ⟨_, _, rfl, h1⟩, part_take (m := 1) rfl⟩
structure PlaceMap where
 Epoch : Int
 Holders : List (List Int)
 deriving Inhabited, DecidableEq
def ePlaceMap : Enc PlaceMap where
 size := 2
 rep H cs x := ∃ A1 c1, cs = [.int .i64 x.Epoch, .slice A1 x.Holders.length c1] ∧ RS (eSl (eInt .i64)) H A1 c1 x.Holders
 len := by rintro H cs x ⟨A1, c1, rfl, h1⟩; rfl
 one := by rintro H cs x ⟨A1, c1, rfl, h1⟩ v hv; simp only [List.mem_cons, or_false, List.not_mem_nil] at hv; rcases hv with rfl | rfl <;> rfl
 mono := by rintro H H' cs x hl ⟨A1, c1, rfl, h1⟩; exact ⟨A1, c1, rfl, h1.up hl⟩
theorem pPlaceMap_Epoch : Part ePlaceMap 0 (eInt .i64) (·.Epoch) := by rintro H cs x ⟨A1, c1, rfl, h1⟩; exact ⟨[.int .i64 x.Epoch], rfl, part_take (m := 1) rfl⟩
theorem pPlaceMap_Holders : Part ePlaceMap 1 (eSl (eSl (eInt .i64))) (·.Holders) := by rintro H cs x ⟨A1, c1, rfl, h1⟩; exact ⟨[.slice A1 x.Holders.length c1], ⟨_, _, rfl, h1⟩, part_take (m := 1) rfl⟩
structure ApiMsg where
 Kind : Int
 From : Int
 To : Int
 Seq : Int
 Batch : Int
 Layer : Int
 Token : Int
 Rank : Int
 Expert : Int
 Epoch : Int
 Vec : List Int
 deriving Inhabited, DecidableEq
def eApiMsg : Enc ApiMsg where
 size := 11
 rep H cs x := ∃ A1 c1, cs = [.int .i64 x.Kind, .int .i64 x.From, .int .i64 x.To, .int .i64 x.Seq, .int .i64 x.Batch, .int .i64 x.Layer, .int .i64 x.Token, .int .i64 x.Rank, .int .i64 x.Expert, .int .i64 x.Epoch, .slice A1 x.Vec.length c1] ∧ RS (eInt .i64) H A1 c1 x.Vec
 len := by rintro H cs x ⟨A1, c1, rfl, h1⟩; rfl
 one := by rintro H cs x ⟨A1, c1, rfl, h1⟩ v hv; simp only [List.mem_cons, or_false, List.not_mem_nil] at hv; rcases hv with rfl | rfl | rfl | rfl | rfl | rfl | rfl | rfl | rfl | rfl | rfl <;> rfl
 mono := by rintro H H' cs x hl ⟨A1, c1, rfl, h1⟩; exact ⟨A1, c1, rfl, h1.up hl⟩
theorem pApiMsg_Token : Part eApiMsg 6 (eInt .i64) (·.Token) := by rintro H cs x ⟨A1, c1, rfl, h1⟩; exact ⟨[.int .i64 x.Token], rfl, part_take (m := 1) rfl⟩
theorem pApiMsg_Rank : Part eApiMsg 7 (eInt .i64) (·.Rank) := by rintro H cs x ⟨A1, c1, rfl, h1⟩; exact ⟨[.int .i64 x.Rank], rfl, part_take (m := 1) rfl⟩
theorem pApiMsg_Expert : Part eApiMsg 8 (eInt .i64) (·.Expert) := by rintro H cs x ⟨A1, c1, rfl, h1⟩; exact ⟨[.int .i64 x.Expert], rfl, part_take (m := 1) rfl⟩
theorem pApiMsg_Vec : Part eApiMsg 10 (eSl (eInt .i64)) (·.Vec) := by rintro H cs x ⟨A1, c1, rfl, h1⟩; exact ⟨[.slice A1 x.Vec.length c1], ⟨_, _, rfl, h1⟩, part_take (m := 1) rfl⟩
structure LedgerKey where
 Batch : Int
 Layer : Int
 Token : Int
 Rank : Int
 deriving Inhabited, DecidableEq
def eLedgerKey : Enc LedgerKey where
 size := 4
 rep H cs x := cs = [.int .i64 x.Batch, .int .i64 x.Layer, .int .i64 x.Token, .int .i64 x.Rank]
 len := by rintro H cs x rfl; rfl
 one := by rintro H cs x rfl v hv; simp only [List.mem_cons, or_false, List.not_mem_nil] at hv; rcases hv with rfl | rfl | rfl | rfl <;> rfl
 mono := by rintro H H' cs x hl rfl; rfl
structure LedgerEntry where
 Key : LedgerKey
 Vec : List Int
 deriving Inhabited, DecidableEq
def eLedgerEntry : Enc LedgerEntry where
 size := 5
 rep H cs x := ∃ A1 c1, cs = [.int .i64 x.Key.Batch, .int .i64 x.Key.Layer, .int .i64 x.Key.Token, .int .i64 x.Key.Rank, .slice A1 x.Vec.length c1] ∧ RS (eInt .i64) H A1 c1 x.Vec
 len := by rintro H cs x ⟨A1, c1, rfl, h1⟩; rfl
 one := by rintro H cs x ⟨A1, c1, rfl, h1⟩ v hv; simp only [List.mem_cons, or_false, List.not_mem_nil] at hv; rcases hv with rfl | rfl | rfl | rfl | rfl <;> rfl
 mono := by rintro H H' cs x hl ⟨A1, c1, rfl, h1⟩; exact ⟨A1, c1, rfl, h1.up hl⟩
theorem pLedgerEntry_Vec : Part eLedgerEntry 4 (eSl (eInt .i64)) (·.Vec) := by rintro H cs x ⟨A1, c1, rfl, h1⟩; exact ⟨[.slice A1 x.Vec.length c1], ⟨_, _, rfl, h1⟩, part_take (m := 1) rfl⟩
structure ModelPart where
 Token : Int
 Rank : Int
 Expert : Int
 Weight : Int
 deriving Inhabited, DecidableEq
def eModelPart : Enc ModelPart where
 size := 4
 rep H cs x := cs = [.int .i64 x.Token, .int .i64 x.Rank, .int .i64 x.Expert, .int .i64 x.Weight]
 len := by rintro H cs x rfl; rfl
 one := by rintro H cs x rfl v hv; simp only [List.mem_cons, or_false, List.not_mem_nil] at hv; rcases hv with rfl | rfl | rfl | rfl <;> rfl
 mono := by rintro H H' cs x hl rfl; rfl
structure FleetFleet where
 m : ApiModel
 p : PlaceMap
 ledgers : List (List LedgerEntry)
 bag : List Str
 tokens : List (List Int)
 at_ : Int
 parts : List ModelPart
 answers : List (List Int)
 answered : List Bool
 deriving Inhabited, DecidableEq
def eFleetFleet (v0 v1 : Value) : Enc FleetFleet := eIso (ePair eApiModel (ePair ePlaceMap (ePair (eArr 5 (eSl eLedgerEntry)) (ePair (eSl eStr) (ePair (eSl (eSl (eInt .i64))) (ePair (eInt .i64) (ePair (eSl eModelPart) (ePair (eRaw v0) (ePair (eRaw v1) eUnit))))))))) (fun x => (x.m, (x.p, (x.ledgers, (x.bag, (x.tokens, (x.at_, (x.parts, ((), ((), ()))))))))))
theorem lFleetFleet_m {v0 : Value} {v1 : Value} : Lens (eFleetFleet v0 v1) 0 eApiModel (·.m) (fun x y => { x with m := y }) := fun H cs x h => ((lens_fst _ _) : Lens (ePair eApiModel (ePair ePlaceMap (ePair (eArr 5 (eSl eLedgerEntry)) (ePair (eSl eStr) (ePair (eSl (eSl (eInt .i64))) (ePair (eInt .i64) (ePair (eSl eModelPart) (ePair (eRaw v0) (ePair (eRaw v1) eUnit))))))))) _ _ _ _) H cs _ h
theorem lFleetFleet_p {v0 : Value} {v1 : Value} : Lens (eFleetFleet v0 v1) 2 ePlaceMap (·.p) (fun x y => { x with p := y }) := fun H cs x h => (((lens_snd _ _).comp (lens_fst _ _)) : Lens (ePair eApiModel (ePair ePlaceMap (ePair (eArr 5 (eSl eLedgerEntry)) (ePair (eSl eStr) (ePair (eSl (eSl (eInt .i64))) (ePair (eInt .i64) (ePair (eSl eModelPart) (ePair (eRaw v0) (ePair (eRaw v1) eUnit))))))))) _ _ _ _) H cs _ h
theorem lFleetFleet_ledgers {v0 : Value} {v1 : Value} : Lens (eFleetFleet v0 v1) 4 (eArr 5 (eSl eLedgerEntry)) (·.ledgers) (fun x y => { x with ledgers := y }) := fun H cs x h => (((lens_snd _ _).comp ((lens_snd _ _).comp (lens_fst _ _))) : Lens (ePair eApiModel (ePair ePlaceMap (ePair (eArr 5 (eSl eLedgerEntry)) (ePair (eSl eStr) (ePair (eSl (eSl (eInt .i64))) (ePair (eInt .i64) (ePair (eSl eModelPart) (ePair (eRaw v0) (ePair (eRaw v1) eUnit))))))))) _ _ _ _) H cs _ h
theorem lFleetFleet_bag {v0 : Value} {v1 : Value} : Lens (eFleetFleet v0 v1) 9 (eSl eStr) (·.bag) (fun x y => { x with bag := y }) := fun H cs x h => (((lens_snd _ _).comp ((lens_snd _ _).comp ((lens_snd _ _).comp (lens_fst _ _)))) : Lens (ePair eApiModel (ePair ePlaceMap (ePair (eArr 5 (eSl eLedgerEntry)) (ePair (eSl eStr) (ePair (eSl (eSl (eInt .i64))) (ePair (eInt .i64) (ePair (eSl eModelPart) (ePair (eRaw v0) (ePair (eRaw v1) eUnit))))))))) _ _ _ _) H cs _ h
theorem lFleetFleet_tokens {v0 : Value} {v1 : Value} : Lens (eFleetFleet v0 v1) 10 (eSl (eSl (eInt .i64))) (·.tokens) (fun x y => { x with tokens := y }) := fun H cs x h => (((lens_snd _ _).comp ((lens_snd _ _).comp ((lens_snd _ _).comp ((lens_snd _ _).comp (lens_fst _ _))))) : Lens (ePair eApiModel (ePair ePlaceMap (ePair (eArr 5 (eSl eLedgerEntry)) (ePair (eSl eStr) (ePair (eSl (eSl (eInt .i64))) (ePair (eInt .i64) (ePair (eSl eModelPart) (ePair (eRaw v0) (ePair (eRaw v1) eUnit))))))))) _ _ _ _) H cs _ h
theorem lFleetFleet_at_ {v0 : Value} {v1 : Value} : Lens (eFleetFleet v0 v1) 11 (eInt .i64) (·.at_) (fun x y => { x with at_ := y }) := fun H cs x h => (((lens_snd _ _).comp ((lens_snd _ _).comp ((lens_snd _ _).comp ((lens_snd _ _).comp ((lens_snd _ _).comp (lens_fst _ _)))))) : Lens (ePair eApiModel (ePair ePlaceMap (ePair (eArr 5 (eSl eLedgerEntry)) (ePair (eSl eStr) (ePair (eSl (eSl (eInt .i64))) (ePair (eInt .i64) (ePair (eSl eModelPart) (ePair (eRaw v0) (ePair (eRaw v1) eUnit))))))))) _ _ _ _) H cs _ h
theorem lFleetFleet_parts {v0 : Value} {v1 : Value} : Lens (eFleetFleet v0 v1) 12 (eSl eModelPart) (·.parts) (fun x y => { x with parts := y }) := fun H cs x h => (((lens_snd _ _).comp ((lens_snd _ _).comp ((lens_snd _ _).comp ((lens_snd _ _).comp ((lens_snd _ _).comp ((lens_snd _ _).comp (lens_fst _ _))))))) : Lens (ePair eApiModel (ePair ePlaceMap (ePair (eArr 5 (eSl eLedgerEntry)) (ePair (eSl eStr) (ePair (eSl (eSl (eInt .i64))) (ePair (eInt .i64) (ePair (eSl eModelPart) (ePair (eRaw v0) (ePair (eRaw v1) eUnit))))))))) _ _ _ _) H cs _ h
theorem sFleetFleet_answers {v0 : Value} {v1 : Value} {v' : Value} : Swap (eFleetFleet v0 v1) (eFleetFleet v' v1) 13 v0 v' := Swap.iso (Swap.there _ (Swap.there _ (Swap.there _ (Swap.there _ (Swap.there _ (Swap.there _ (Swap.there _ (Swap.here _ _ _)))))))) _
theorem gFleetFleet_answers {v0 : Value} {v1 : Value} {H : IHeap} {cs : List Value} {x : FleetFleet} (h : Enc.rep (eFleetFleet v0 v1) H cs x) : cs[13]? = some v0 := (sFleetFleet_answers (v' := v0) H cs x h).1
theorem uFleetFleet_answers {v0 : Value} {v1 : Value} {H : IHeap} {cs : List Value} {x : FleetFleet} {y : List (List Int)} (h : Enc.rep (eFleetFleet v0 v1) H cs x) : Enc.rep (eFleetFleet v0 v1) H cs { x with answers := y } := h
theorem wFleetFleet_answers {v0 : Value} {v1 : Value} {v' : Value} {H : IHeap} {cs : List Value} {x : FleetFleet} (e : v0 = v') (h : Enc.rep (eFleetFleet v0 v1) H cs x) : Enc.rep (eFleetFleet v' v1) H cs x := e ▸ h
theorem sFleetFleet_answered {v0 : Value} {v1 : Value} {v' : Value} : Swap (eFleetFleet v0 v1) (eFleetFleet v0 v') 14 v1 v' := Swap.iso (Swap.there _ (Swap.there _ (Swap.there _ (Swap.there _ (Swap.there _ (Swap.there _ (Swap.there _ (Swap.there _ (Swap.here _ _ _))))))))) _
theorem gFleetFleet_answered {v0 : Value} {v1 : Value} {H : IHeap} {cs : List Value} {x : FleetFleet} (h : Enc.rep (eFleetFleet v0 v1) H cs x) : cs[14]? = some v1 := (sFleetFleet_answered (v' := v1) H cs x h).1
theorem uFleetFleet_answered {v0 : Value} {v1 : Value} {H : IHeap} {cs : List Value} {x : FleetFleet} {y : List Bool} (h : Enc.rep (eFleetFleet v0 v1) H cs x) : Enc.rep (eFleetFleet v0 v1) H cs { x with answered := y } := h
theorem wFleetFleet_answered {v0 : Value} {v1 : Value} {v' : Value} {H : IHeap} {cs : List Value} {x : FleetFleet} (e : v1 = v') (h : Enc.rep (eFleetFleet v0 v1) H cs x) : Enc.rep (eFleetFleet v0 v') H cs x := e ▸ h
structure GateChoice where
 First : Int
 Second : Int
 W1 : Int
 W2 : Int
 deriving Inhabited, DecidableEq
def eGateChoice : Enc GateChoice where
 size := 4
 rep H cs x := cs = [.int .i64 x.First, .int .i64 x.Second, .int .i64 x.W1, .int .i64 x.W2]
 len := by rintro H cs x rfl; rfl
 one := by rintro H cs x rfl v hv; simp only [List.mem_cons, or_false, List.not_mem_nil] at hv; rcases hv with rfl | rfl | rfl | rfl <;> rfl
 mono := by rintro H H' cs x hl rfl; rfl
theorem pGateChoice_W1 : Part eGateChoice 2 (eInt .i64) (·.W1) := by rintro H cs x rfl; exact ⟨[.int .i64 x.W1], rfl, part_take (m := 1) rfl⟩
theorem pGateChoice_W2 : Part eGateChoice 3 (eInt .i64) (·.W2) := by rintro H cs x rfl; exact ⟨[.int .i64 x.W2], rfl, part_take (m := 1) rfl⟩
def zc99 : List Value := (List.replicate 2 (.int .i64 0))
theorem zr99 (H : IHeap) : Enc.rep (eArr 2 (eInt .i64)) H zc99 (List.replicate 2 (0 : Int)) := (rep_repl 2 rfl)
def switchboardref03_Small_l1 (p0 : List (List Int)) : Nat → Int → Option (LR Int Bool)
 | 0, _ => none
 | rest5 + 1, v7 => (bif (decide (v7 < (p0.length : Int))) && (decide (v7 < 30)) then (bif inb v7 p0.length then (bif decide (30 < ((at0 p0 v7).length : Int)) then (some (.ret false)) else (switchboardref03_Small_l1 p0 rest5 (i64w (v7 + 1)))) else none) else (some (.out v7)))
def switchboardref03_Small (p0 : List (List Int)) : Option Bool := ((switchboardref03_Small_l1 p0 FUEL 0).bind fun o => match o with | .ret r => some r | .out v20 => (some (decide ((p0.length : Int) ≤ 30))))
def switchboardref15_Small_l2 : List ApiExpert → Nat → Option (LR Unit Bool)
 | [], i36 => (some (.out ()))
 | x38 :: rest37, i36 => ((switchboardref03_Small x38.In).bind fun t55 => (bif !t55 then (some (.ret false)) else ((switchboardref03_Small x38.Out).bind fun t61 => (bif !t61 then (some (.ret false)) else (switchboardref15_Small_l2 rest37 (i36 + 1))))))
def switchboardref15_Small_l1 : List ApiLayer → Nat → Option (LR Unit Bool)
 | [], i7 => (some (.out ()))
 | x9 :: rest8, i7 => (bif decide (9 < (x9.Experts.length : Int)) then (some (.ret false)) else ((switchboardref03_Small x9.Gate).bind fun t27 => (bif !t27 then (some (.ret false)) else ((switchboardref15_Small_l2 x9.Experts 0).bind fun o => match o with | .ret r => some (.ret r) | .out () => (switchboardref15_Small_l1 rest8 (i7 + 1))))))
def switchboardref15_Small (p0 : ApiModel) : Option Bool := (bif decide (5 < (p0.Layers.length : Int)) then (some false) else ((switchboardref15_Small_l1 p0.Layers 0).bind fun o => match o with | .ret r => some r | .out () => (some true)))
def switchboardref03_Right_l2 (p0 : List (List Int)) (v8 : Int) : Nat → Int → Option (LR Int Bool)
 | 0, _ => none
 | rest23 + 1, v25 => (bif inb v8 p0.length then (bif decide (v25 < ((at0 p0 v8).length : Int)) then (bif inb v8 p0.length then (bif inb v25 (at0 p0 v8).length then (bif decide (2147483647 < (at0 (at0 p0 v8) v25)) then (some (.ret false)) else (bif inb v8 p0.length then (bif inb v25 (at0 p0 v8).length then (bif decide ((at0 (at0 p0 v8) v25) < (-2147483647)) then (some (.ret false)) else (switchboardref03_Right_l2 p0 v8 rest23 (i64w (v25 + 1)))) else none) else none)) else none) else none) else (some (.out v25))) else none)
def switchboardref03_Right_l1 (p0 : List (List Int)) (p2 : Int) : Nat → Int → Option (LR Int Bool)
 | 0, _ => none
 | rest6 + 1, v8 => (bif decide (v8 < (p0.length : Int)) then (bif inb v8 p0.length then (bif ((at0 p0 v8).length : Int) != p2 then (some (.ret false)) else ((switchboardref03_Right_l2 p0 v8 FUEL 0).bind fun o => match o with | .ret r => some (.ret r) | .out v63 => (switchboardref03_Right_l1 p0 p2 rest6 (i64w (v8 + 1))))) else none) else (some (.out v8)))
def switchboardref03_Right (p0 : List (List Int)) (p1 : Int) (p2 : Int) : Option Bool := (bif (p0.length : Int) != p1 then (some false) else ((switchboardref03_Right_l1 p0 p2 FUEL 0).bind fun o => match o with | .ret r => some r | .out v70 => (some true)))
def switchboardref11_Right (p0 : ApiExpert) (p1 : Int) : Option Bool := (bif (((decide (p1 < 1)) || (decide (8 < p1))) || (decide ((p0.In.length : Int) < 1))) || (decide (8 < (p0.In.length : Int))) then (some false) else ((switchboardref03_Right p0.In (p0.In.length : Int) p1).bind fun t4 => (bif t4 then ((switchboardref03_Right p0.Out p1 (p0.In.length : Int)).bind fun t10 => (some t10)) else (some false))))
def switchboardref15_Right_l2 (p0 : ApiModel) : List ApiExpert → Nat → Option (LR Unit Bool)
 | [], i36 => (some (.out ()))
 | x38 :: rest37, i36 => ((switchboardref11_Right x38 p0.Dim).bind fun t55 => (bif !t55 then (some (.ret false)) else (switchboardref15_Right_l2 p0 rest37 (i36 + 1))))
def switchboardref15_Right_l1 (p0 : ApiModel) : List ApiLayer → Nat → Option (LR Unit Bool)
 | [], i7 => (some (.out ()))
 | x9 :: rest8, i7 => (bif (decide ((x9.Experts.length : Int) < 1)) || (decide (8 < (x9.Experts.length : Int))) then (some (.ret false)) else ((switchboardref03_Right x9.Gate (x9.Experts.length : Int) p0.Dim).bind fun t27 => (bif ((!t27) || (decide (x9.Capacity < 1))) || (decide (32 < x9.Capacity)) then (some (.ret false)) else ((switchboardref15_Right_l2 p0 x9.Experts 0).bind fun o => match o with | .ret r => some (.ret r) | .out () => (switchboardref15_Right_l1 p0 rest8 (i7 + 1))))))
def switchboardref15_Right (p0 : ApiModel) : Option Bool := (bif (((decide (p0.Dim < 1)) || (decide (8 < p0.Dim))) || (decide ((p0.Layers.length : Int) < 1))) || (decide (4 < (p0.Layers.length : Int))) then (some false) else ((switchboardref15_Right_l1 p0 p0.Layers 0).bind fun o => match o with | .ret r => some r | .out () => (some true)))
def switchboardref15_Tokens (p0 : ApiModel) (p1 : List (List Int)) : Option Bool := (bif (decide (0 < (p1.length : Int))) && (decide ((p1.length : Int) < 17)) then ((switchboardref03_Right p1 (p1.length : Int) p0.Dim).bind fun t4 => (some t4)) else (some false))
def switchboardref17_Right_l2 (p0 : PlaceMap) (v10 : Int) : Nat → Int → Option (LR Int Bool)
 | 0, _ => none
 | rest25 + 1, v27 => (bif decide (v27 < ((at0 p0.Holders v10).length : Int)) then (bif inb v27 (at0 p0.Holders v10).length then (bif decide ((at0 (at0 p0.Holders v10) v27) < 1) then (some (.ret false)) else (bif inb v27 (at0 p0.Holders v10).length then (bif decide (4 < (at0 (at0 p0.Holders v10) v27)) then (some (.ret false)) else (bif decide (0 < v27) then (bif inb v27 (at0 p0.Holders v10).length then (bif inb (i64w (v27 - 1)) (at0 p0.Holders v10).length then (bif decide ((at0 (at0 p0.Holders v10) v27) ≤ (at0 (at0 p0.Holders v10) (i64w (v27 - 1)))) then (some (.ret false)) else (switchboardref17_Right_l2 p0 v10 rest25 (i64w (v27 + 1)))) else none) else none) else (switchboardref17_Right_l2 p0 v10 rest25 (i64w (v27 + 1))))) else none)) else none) else (some (.out v27)))
def switchboardref17_Right_l1 (p0 : PlaceMap) : Nat → Int → Option (LR Int Bool)
 | 0, _ => none
 | rest8 + 1, v10 => (bif decide (v10 < (p0.Holders.length : Int)) then (bif inb v10 p0.Holders.length then (bif ((at0 p0.Holders v10).length : Int) == 0 then (some (.ret false)) else ((switchboardref17_Right_l2 p0 v10 FUEL 0).bind fun o => match o with | .ret r => some (.ret r) | .out v52 => (switchboardref17_Right_l1 p0 rest8 (i64w (v10 + 1))))) else none) else (some (.out v10)))
def switchboardref17_Right (p0 : PlaceMap) : Option Bool := (bif ((decide (p0.Epoch < 0)) || (decide (2147483647 < p0.Epoch))) || (decide (8 < (p0.Holders.length : Int))) then (some false) else ((switchboardref17_Right_l1 p0 FUEL 0).bind fun o => match o with | .ret r => some r | .out v58 => (some true)))
def switchboardref19_May_l1 (p1 : PlaceMap) : List ApiLayer → Nat → Option (LR Unit Bool)
 | [], i26 => (some (.out ()))
 | x28 :: rest27, i26 => (bif decide ((p1.Holders.length : Int) < (x28.Experts.length : Int)) then (some (.ret false)) else (switchboardref19_May_l1 p1 rest27 (i26 + 1)))
def switchboardref19_May (p0 : ApiModel) (p1 : PlaceMap) (p2 : List (List Int)) : Option Bool := ((switchboardref15_Right p0).bind fun t5 => (bif !t5 then (some false) else ((switchboardref15_Tokens p0 p2).bind fun t11 => (bif !t11 then (some false) else ((switchboardref17_Right p1).bind fun t17 => (bif !t17 then (some false) else ((switchboardref19_May_l1 p1 p0.Layers 0).bind fun o => match o with | .ret r => some r | .out () => (some true))))))))
def fix_Hold (p0 : Int) : Option Int := (some (iMax (-2147483647) (iMin 2147483647 p0)))
def mat_Right_1_1 (p0 : Int) : Option Bool := ((fix_Hold p0).bind fun t1 => (some (t1 != p0)))
def slices_IndexFunc_int_mat_Right_1_1_l1 : List Int → Nat → Option (LR Unit Int)
 | [], i4 => (some (.out ()))
 | x6 :: rest5, i4 => ((mat_Right_1_1 x6).bind fun t11 => (bif t11 then (some (.ret (i4 : Int))) else (slices_IndexFunc_int_mat_Right_1_1_l1 rest5 (i4 + 1))))
def slices_IndexFunc_int_mat_Right_1_1 (p0 : List Int) : Option Int := ((slices_IndexFunc_int_mat_Right_1_1_l1 p0 0).bind fun o => match o with | .ret r => some r | .out () => (some (-1)))
def slices_ContainsFunc_int_mat_Right_1_1 (p0 : List Int) : Option Bool := ((slices_IndexFunc_int_mat_Right_1_1 p0).bind fun t1 => (some (decide (0 ≤ t1))))
def mat_Right_1 (p0 : List Int) (q_0 : Int) : Option Bool := (bif (p0.length : Int) != q_0 then (some true) else ((slices_ContainsFunc_int_mat_Right_1_1 p0).bind fun t2 => (some t2)))
def slices_IndexFunc__int_mat_Right_1_l1 (q1_0 : Int) : List (List Int) → Nat → Option (LR Unit Int)
 | [], i4 => (some (.out ()))
 | x6 :: rest5, i4 => ((mat_Right_1 x6 q1_0).bind fun t15 => (bif t15 then (some (.ret (i4 : Int))) else (slices_IndexFunc__int_mat_Right_1_l1 q1_0 rest5 (i4 + 1))))
def slices_IndexFunc__int_mat_Right_1 (p0 : List (List Int)) (q1_0 : Int) : Option Int := ((slices_IndexFunc__int_mat_Right_1_l1 q1_0 p0 0).bind fun o => match o with | .ret r => some r | .out () => (some (-1)))
def slices_ContainsFunc__int_mat_Right_1 (p0 : List (List Int)) (q1_0 : Int) : Option Bool := ((slices_IndexFunc__int_mat_Right_1 p0 q1_0).bind fun t1 => (some (decide (0 ≤ t1))))
def mat_Right (p0 : List (List Int)) (p1 : Int) (p2 : Int) : Option Bool := (bif (p0.length : Int) == p1 then ((slices_ContainsFunc__int_mat_Right_1 p0 p2).bind fun t7 => (some (!t7))) else (some false))
def expert_Right (p0 : ApiExpert) (p1 : Int) : Option Bool := (bif (((decide (1 ≤ p1)) && (decide (p1 ≤ 8))) && (decide (1 ≤ (p0.In.length : Int)))) && (decide ((p0.In.length : Int) ≤ 8)) then ((mat_Right p0.In (p0.In.length : Int) p1).bind fun t4 => (bif t4 then ((mat_Right p0.Out p1 (p0.In.length : Int)).bind fun t10 => (some t10)) else (some false))) else (some false))
def model_layer_1 (p0 : ApiExpert) (q_0 : Int) : Option Bool := ((expert_Right p0 q_0).bind fun t3 => (some (!t3)))
def slices_IndexFunc_api_Expert_model_layer_1_l1 (q1_0 : Int) : List ApiExpert → Nat → Option (LR Unit Int)
 | [], i4 => (some (.out ()))
 | x6 :: rest5, i4 => ((model_layer_1 x6 q1_0).bind fun t20 => (bif t20 then (some (.ret (i4 : Int))) else (slices_IndexFunc_api_Expert_model_layer_1_l1 q1_0 rest5 (i4 + 1))))
def slices_IndexFunc_api_Expert_model_layer_1 (p0 : List ApiExpert) (q1_0 : Int) : Option Int := ((slices_IndexFunc_api_Expert_model_layer_1_l1 q1_0 p0 0).bind fun o => match o with | .ret r => some r | .out () => (some (-1)))
def slices_ContainsFunc_api_Expert_model_layer_1 (p0 : List ApiExpert) (q1_0 : Int) : Option Bool := ((slices_IndexFunc_api_Expert_model_layer_1 p0 q1_0).bind fun t1 => (some (decide (0 ≤ t1))))
def model_layer (p0 : ApiLayer) (p1 : Int) : Option Bool := (bif (decide (1 ≤ (p0.Experts.length : Int))) && (decide ((p0.Experts.length : Int) ≤ 8)) then ((mat_Right p0.Gate (p0.Experts.length : Int) p1).bind fun t6 => (bif (t6 && (decide (1 ≤ p0.Capacity))) && (decide (p0.Capacity ≤ 32)) then ((slices_ContainsFunc_api_Expert_model_layer_1 p0.Experts p1).bind fun t15 => (some (!t15))) else (some false))) else (some false))
def model_Right_1 (p0 : ApiLayer) (q_0 : ApiModel) : Option Bool := ((model_layer p0 q_0.Dim).bind fun t3 => (some (!t3)))
def slices_IndexFunc_api_Layer_model_Right_1_l1 (q1_0 : ApiModel) : List ApiLayer → Nat → Option (LR Unit Int)
 | [], i4 => (some (.out ()))
 | x6 :: rest5, i4 => ((model_Right_1 x6 q1_0).bind fun t20 => (bif t20 then (some (.ret (i4 : Int))) else (slices_IndexFunc_api_Layer_model_Right_1_l1 q1_0 rest5 (i4 + 1))))
def slices_IndexFunc_api_Layer_model_Right_1 (p0 : List ApiLayer) (q1_0 : ApiModel) : Option Int := ((slices_IndexFunc_api_Layer_model_Right_1_l1 q1_0 p0 0).bind fun o => match o with | .ret r => some r | .out () => (some (-1)))
def slices_ContainsFunc_api_Layer_model_Right_1 (p0 : List ApiLayer) (q1_0 : ApiModel) : Option Bool := ((slices_IndexFunc_api_Layer_model_Right_1 p0 q1_0).bind fun t1 => (some (decide (0 ≤ t1))))
def model_Right (p0 : ApiModel) : Option Bool := (bif (((decide (1 ≤ p0.Dim)) && (decide (p0.Dim ≤ 8))) && (decide (1 ≤ (p0.Layers.length : Int)))) && (decide ((p0.Layers.length : Int) ≤ 4)) then ((slices_ContainsFunc_api_Layer_model_Right_1 p0.Layers p0).bind fun t7 => (some (!t7))) else (some false))
def model_Tokens_1_1 (p0 : Int) : Option Bool := ((fix_Hold p0).bind fun t1 => (some (t1 != p0)))
def slices_IndexFunc_int_model_Tokens_1_1_l1 : List Int → Nat → Option (LR Unit Int)
 | [], i4 => (some (.out ()))
 | x6 :: rest5, i4 => ((model_Tokens_1_1 x6).bind fun t11 => (bif t11 then (some (.ret (i4 : Int))) else (slices_IndexFunc_int_model_Tokens_1_1_l1 rest5 (i4 + 1))))
def slices_IndexFunc_int_model_Tokens_1_1 (p0 : List Int) : Option Int := ((slices_IndexFunc_int_model_Tokens_1_1_l1 p0 0).bind fun o => match o with | .ret r => some r | .out () => (some (-1)))
def slices_ContainsFunc_int_model_Tokens_1_1 (p0 : List Int) : Option Bool := ((slices_IndexFunc_int_model_Tokens_1_1 p0).bind fun t1 => (some (decide (0 ≤ t1))))
def model_Tokens_1 (p0 : List Int) (q_0 : ApiModel) : Option Bool := (bif (p0.length : Int) != q_0.Dim then (some true) else ((slices_ContainsFunc_int_model_Tokens_1_1 p0).bind fun t2 => (some t2)))
def slices_IndexFunc__int_model_Tokens_1_l1 (q1_0 : ApiModel) : List (List Int) → Nat → Option (LR Unit Int)
 | [], i4 => (some (.out ()))
 | x6 :: rest5, i4 => ((model_Tokens_1 x6 q1_0).bind fun t15 => (bif t15 then (some (.ret (i4 : Int))) else (slices_IndexFunc__int_model_Tokens_1_l1 q1_0 rest5 (i4 + 1))))
def slices_IndexFunc__int_model_Tokens_1 (p0 : List (List Int)) (q1_0 : ApiModel) : Option Int := ((slices_IndexFunc__int_model_Tokens_1_l1 q1_0 p0 0).bind fun o => match o with | .ret r => some r | .out () => (some (-1)))
def slices_ContainsFunc__int_model_Tokens_1 (p0 : List (List Int)) (q1_0 : ApiModel) : Option Bool := ((slices_IndexFunc__int_model_Tokens_1 p0 q1_0).bind fun t1 => (some (decide (0 ≤ t1))))
def model_Tokens (p0 : ApiModel) (p1 : List (List Int)) : Option Bool := (bif (decide (1 ≤ (p1.length : Int))) && (decide ((p1.length : Int) ≤ 16)) then ((slices_ContainsFunc__int_model_Tokens_1 p1 p0).bind fun t7 => (some (!t7))) else (some false))
def place_Right_l2 : List Int → Nat → Int → Option (LR Int Bool)
 | [], i20, v23 => (some (.out v23))
 | x22 :: rest21, i20, v23 => (bif (decide (x22 ≤ v23)) || (decide (4 < x22)) then (some (.ret false)) else (place_Right_l2 rest21 (i20 + 1) x22))
def place_Right_l1 : List (List Int) → Nat → Option (LR Unit Bool)
 | [], i6 => (some (.out ()))
 | x8 :: rest7, i6 => ((place_Right_l2 x8 0 0).bind fun o => match o with | .ret r => some (.ret r) | .out v31 => (bif (x8.length : Int) == 0 then (some (.ret false)) else (place_Right_l1 rest7 (i6 + 1))))
def place_Right (p0 : PlaceMap) : Option Bool := ((place_Right_l1 p0.Holders 0).bind fun o => match o with | .ret r => some r | .out () => (some (((decide (0 ≤ p0.Epoch)) && (decide (p0.Epoch ≤ 2147483647))) && (decide ((p0.Holders.length : Int) ≤ 8)))))
def slices_Clone__int (p0 : List (List Int)) : Option (List (List Int)) := cloneM p0
def crc_Sum_l2 : Nat → Nat → Int → Option (Int)
 | 0, i22, v25 => (some v25)
 | rest23 + 1, i22, v25 => (crc_Sum_l2 rest23 (i22 + 1) (ibits .xor .u32 (Int.fdiv v25 (2 ^ Int.toNat 1)) (u32w (3988292384 * (ibits .and .u32 v25 1)))))
def crc_Sum_l1 : List Int → Nat → Int → Option (Int)
 | [], i11, v14 => (some v14)
 | x13 :: rest12, i11, v14 => (bif limI 8 then ((crc_Sum_l2 (Int.toNat 8) 0 (ibits .xor .u32 v14 (u32w x13))).bind fun v29 => (crc_Sum_l1 rest12 (i11 + 1) v29)) else none)
def crc_Sum (p0 : Str) : Option Int := (bif lim p0.length then ((crc_Sum_l1 (bytesI p0) 0 4294967295).bind fun v37 => (some (i64w (ibits .xor .u32 v37 4294967295)))) else none)
def wire_numbers (p0 : ApiMsg) : Option ((List Int)) := (some ([p0.Kind, p0.From, p0.To, p0.Seq, p0.Batch, p0.Layer, p0.Token, p0.Rank, p0.Expert, p0.Epoch] : List Int))
def wire_Right_l1 : List Int → Nat → Option (LR Unit Bool)
 | [], i20 => (some (.out ()))
 | x22 :: rest21, i20 => (bif (decide (x22 < 0)) || (decide (2147483647 < x22)) then (some (.ret false)) else (wire_Right_l1 rest21 (i20 + 1)))
def wire_Right_l2 : List Int → Nat → Option (LR Unit Bool)
 | [], i35 => (some (.out ()))
 | x37 :: rest36, i35 => (bif (decide (x37 < (-2147483648))) || (decide (2147483647 < x37)) then (some (.ret false)) else (wire_Right_l2 rest36 (i35 + 1)))
def wire_Right (p0 : ApiMsg) : Option Bool := ((wire_numbers p0).bind fun t3 => ((wire_Right_l1 t3 0).bind fun o => match o with | .ret r => some r | .out () => ((wire_Right_l2 p0.Vec 0).bind fun o => match o with | .ret r => some r | .out () => (some (((decide (1 ≤ p0.Kind)) && (decide (p0.Kind ≤ 4))) && (decide ((p0.Vec.length : Int) ≤ 8)))))))
def wire_four (p0 : Int) : Option Str := (some (bstr ([u8w p0, u8w (Int.fdiv p0 (2 ^ Int.toNat 8)), u8w (Int.fdiv p0 (2 ^ Int.toNat 16)), u8w (Int.fdiv p0 (2 ^ Int.toNat 24))] : List Int)))
def wire_Put_l1 : List Int → Nat → Str → Option (Str)
 | [], i44, v47 => (some v47)
 | x46 :: rest45, i44, v47 => ((wire_four x46).bind fun t52 => (bif lim (v47.length + t52.length) then (wire_Put_l1 rest45 (i44 + 1) (v47 ++ t52)) else none))
def wire_Put (p0 : ApiMsg) : Option (Str × Int) := ((wire_Right p0).bind fun t3 => (bif !t3 then (some (([] : Str), 1)) else ((wire_numbers p0).bind fun t10 => (bif lim (t10.length + ([(p0.Vec.length : Int)] : List Int).length) then (bif lim ((t10 ++ ([(p0.Vec.length : Int)] : List Int)).length + p0.Vec.length) then ((wire_Put_l1 ((t10 ++ ([(p0.Vec.length : Int)] : List Int)) ++ p0.Vec) 0 ([] : Str)).bind fun v60 => ((crc_Sum v60).bind fun t63 => ((wire_four t63).bind fun t68 => (bif lim (v60.length + t68.length) then ((wire_four ((v60 ++ t68).length : Int)).bind fun t74 => (bif lim (t74.length + (v60 ++ t68).length) then (some (t74 ++ (v60 ++ t68), 0)) else none)) else none)))) else none) else none))))
def slices_Clone_string (p0 : List Str) : Option (List Str) := cloneM p0
def bag_Put (p0 : List Str) (p1 : Str) : Option ((List Str)) := ((slices_Clone_string p0).bind fun t1 => (bif decide ((p0.length : Int) < 200) then (bif lim (t1.length + ([p1] : List Str).length) then (some (t1 ++ ([p1] : List Str))) else none) else (some t1)))
def fleet_Fleet_send (p0 : FleetFleet) (p1 : ApiMsg) : Option FleetFleet := ((wire_Put p1).bind fun t3 => (bif t3.2 == 0 then ((bag_Put p0.bag t3.1).bind fun t15 => (some ({ p0 with bag := t15 } : FleetFleet))) else (some p0)))
def place_Pick (p0 : PlaceMap) (p1 : Int) (p2 : Int) : Option (Int × Bool) := ((place_Right p0).bind fun t3 => (bif (((!t3) || (decide (p1 < 0))) || (decide ((p0.Holders.length : Int) ≤ p1))) || (decide (p2 < 0)) then (some (0, false)) else (bif inb p1 p0.Holders.length then (bif ((at0 p0.Holders p1).length : Int) != 0 then (bif inb (Int.tmod p2 ((at0 p0.Holders p1).length : Int)) (at0 p0.Holders p1).length then (some ((at0 (at0 p0.Holders p1) (Int.tmod p2 ((at0 p0.Holders p1).length : Int))), true)) else none) else none) else none)))
def fleet_Fleet_Ask_l1 : List ModelPart → Nat → FleetFleet → Option (FleetFleet)
 | [], i21, v24 => (some v24)
 | x23 :: rest22, i21, v24 => (bif inb (i21 : Int) v24.answered.length then (bif (at0 v24.answered (i21 : Int)) then (fleet_Fleet_Ask_l1 rest22 (i21 + 1) v24) else ((place_Pick (⟨v24.p.Epoch, v24.p.Holders⟩ : PlaceMap) x23.Expert (i64w (x23.Token + x23.Rank))).bind fun t61 => (bif inb x23.Token v24.tokens.length then ((fleet_Fleet_send v24 (⟨1, 0, t61.1, 0, 1, v24.at_, x23.Token, x23.Rank, x23.Expert, v24.p.Epoch, (at0 v24.tokens x23.Token)⟩ : ApiMsg)).bind fun t87 => (fleet_Fleet_Ask_l1 rest22 (i21 + 1) t87)) else none))) else none)
def fleet_Fleet_Ask (p0 : FleetFleet) : Option FleetFleet := (bif decide ((p0.m.Layers.length : Int) ≤ p0.at_) then (some p0) else ((fleet_Fleet_Ask_l1 p0.parts 0 p0).bind fun v108 => (some v108)))
def fix_Add (p0 : Int) (p1 : Int) : Option Int := ((fix_Hold p0).bind fun t1 => ((fix_Hold p1).bind fun t6 => ((fix_Hold (i64w (t1 + t6))).bind fun t11 => (some t11))))
def fix_Mul (p0 : Int) (p1 : Int) : Option Int := ((fix_Hold p0).bind fun t1 => ((fix_Hold p1).bind fun t6 => ((fix_Hold (i64w (Int.tdiv (i64w (t1 * t6)) 65536))).bind fun t11 => (some t11))))
def vec_Dot_l1 (p1 : List Int) : List Int → Nat → Int → Option (Int)
 | [], i5, v8 => (some v8)
 | x7 :: rest6, i5, v8 => (bif inb (i5 : Int) p1.length then ((fix_Mul x7 (at0 p1 (i5 : Int))).bind fun t17 => ((fix_Add v8 t17).bind fun t22 => (vec_Dot_l1 p1 rest6 (i5 + 1) t22))) else none)
def vec_Dot (p0 : List Int) (p1 : List Int) : Option (Int × Bool) := (bif (p0.length : Int) != (p1.length : Int) then (some (0, false)) else ((vec_Dot_l1 p1 p0 0 0).bind fun v29 => (some (v29, true))))
def mat_Apply_l1 (p1 : List Int) : List (List Int) → Nat → (List Int) → Option (LR ((List Int)) ((List Int) × Bool))
 | [], i4, v7 => (some (.out v7))
 | x6 :: rest5, i4, v7 => ((vec_Dot x6 p1).bind fun t20 => (bif !t20.2 then (some (.ret (([] : List Int), false))) else (bif lim (v7.length + ([t20.1] : List Int).length) then (mat_Apply_l1 p1 rest5 (i4 + 1) (v7 ++ ([t20.1] : List Int))) else none)))
def mat_Apply (p0 : List (List Int)) (p1 : List Int) : Option ((List Int) × Bool) := ((mat_Apply_l1 p1 p0 0 ([] : List Int)).bind fun o => match o with | .ret r => some r | .out v37 => (some (v37, true)))
def top_beside_l1 (p0 : List Int) (p1 : Int) : List Int → Nat → Int → Option (Int)
 | [], i4, v7 => (some v7)
 | x6 :: rest5, i4, v7 => (bif (i4 : Int) != p1 then (bif decide (v7 < 0) then (top_beside_l1 p0 p1 rest5 (i4 + 1) (i4 : Int)) else (bif inb v7 p0.length then (bif decide ((at0 p0 v7) < x6) then (top_beside_l1 p0 p1 rest5 (i4 + 1) (i4 : Int)) else (top_beside_l1 p0 p1 rest5 (i4 + 1) v7)) else none)) else (top_beside_l1 p0 p1 rest5 (i4 + 1) v7))
def top_beside (p0 : List Int) (p1 : Int) : Option Int := ((top_beside_l1 p0 p1 p0 0 (-1)).bind fun v21 => (some v21))
def top_Best (p0 : List Int) : Option Int := ((top_beside p0 (-1)).bind fun t1 => (some t1))
def top_Two (p0 : List Int) : Option (Int × Int) := ((top_Best p0).bind fun t1 => ((top_beside p0 t1).bind fun t6 => (some (t1, t6))))
def share_Shares (p0 : Int) (p1 : Int) : Option (Int × Int) := ((fix_Hold p0).bind fun t1 => ((fix_Hold p1).bind fun t6 => (bif (i64w ((i64w ((iMax t1 0) + 1)) + (i64w ((iMax t6 0) + 1)))) != 0 then (some (i64w (Int.tdiv (i64w ((i64w ((iMax t1 0) + 1)) * 65536)) (i64w ((i64w ((iMax t1 0) + 1)) + (i64w ((iMax t6 0) + 1))))), i64w (65536 - (i64w (Int.tdiv (i64w ((i64w ((iMax t1 0) + 1)) * 65536)) (i64w ((i64w ((iMax t1 0) + 1)) + (i64w ((iMax t6 0) + 1))))))))) else none)))
def gate_Choose (p0 : List (List Int)) (p1 : List Int) : Option (GateChoice × Bool) := ((mat_Apply p0 p1).bind fun t3 => (bif (!t3.2) || ((p0.length : Int) == 0) then (some ((⟨0, 0, 0, 0⟩ : GateChoice), false)) else ((top_Two t3.1).bind fun t16 => (bif decide (0 ≤ t16.2) then (bif inb t16.1 t3.1.length then (bif inb t16.2 t3.1.length then ((share_Shares (at0 t3.1 t16.1) (at0 t3.1 t16.2)).bind fun t33 => (some ((⟨t16.1, t16.2, t33.1, t33.2⟩ : GateChoice), true))) else none) else none) else (some ((⟨t16.1, t16.2, 65536, 0⟩ : GateChoice), true))))))
def slots_Assign_l2 (p1 : Int) (p2 : Int) (x8 : List Int) : Nat → Nat → (List Int) → (List (Int × Int)) → Option (((List Int) × (List (Int × Int))))
 | 0, i36, v39, v42 => (some (v39, v42))
 | rest37 + 1, i36, v39, v42 => (bif inb (i36 : Int) 2 then (bif (decide ((at0 x8 (i36 : Int)) < 0)) || (decide (p1 ≤ (at0 x8 (i36 : Int)))) then (slots_Assign_l2 p1 p2 x8 rest37 (i36 + 1) v39 v42) else (bif decide (p2 ≤ (mget 0 v42 (at0 x8 (i36 : Int)))) then (slots_Assign_l2 p1 p2 x8 rest37 (i36 + 1) v39 v42) else (bif inb (i36 : Int) 2 then (slots_Assign_l2 p1 p2 x8 rest37 (i36 + 1) (List.set v39 (Int.toNat (i36 : Int)) (mget 0 v42 (at0 x8 (i36 : Int)))) (mput v42 (at0 x8 (i36 : Int)) (i64w ((mget 0 v42 (at0 x8 (i36 : Int))) + 1)))) else none))) else none)
def slots_Assign_l1 (p1 : Int) (p2 : Int) : List (List Int) → Nat → (List (List Int)) → (List (Int × Int)) → Option (((List (List Int)) × (List (Int × Int))))
 | [], i6, v9, v14 => (some (v9, v14))
 | x8 :: rest7, i6, v9, v14 => (bif limI 2 then ((slots_Assign_l2 p1 p2 x8 (Int.toNat 2) 0 [(-1), (-1)] v14).bind fun o => match o with | (v54, v57) => (bif lim (v9.length + ([v54] : List (List Int)).length) then (slots_Assign_l1 p1 p2 rest7 (i6 + 1) (v9 ++ ([v54] : List (List Int))) v57) else none)) else none)
def slots_Assign (p0 : List (List Int)) (p1 : Int) (p2 : Int) : Option ((List (List Int))) := ((slots_Assign_l1 p1 p2 p0 0 ([] : List (List Int)) ([] : List (Int × Int))).bind fun o => match o with | (v78, v83) => (some v78))
def model_Parts_l1 (p0 : ApiLayer) : List (List Int) → Nat → (List GateChoice) → (List (List Int)) → Option (((List GateChoice) × (List (List Int))))
 | [], i6, v9, v14 => (some (v9, v14))
 | x8 :: rest7, i6, v9, v14 => ((gate_Choose p0.Gate x8).bind fun t27 => (bif lim (v9.length + ([(⟨t27.1.First, t27.1.Second, t27.1.W1, t27.1.W2⟩ : GateChoice)] : List GateChoice).length) then (bif lim (v14.length + ([[t27.1.First, t27.1.Second]] : List (List Int)).length) then (model_Parts_l1 p0 rest7 (i6 + 1) (v9 ++ ([(⟨t27.1.First, t27.1.Second, t27.1.W1, t27.1.W2⟩ : GateChoice)] : List GateChoice)) (v14 ++ ([[t27.1.First, t27.1.Second]] : List (List Int)))) else none) else none))
def model_Parts_l3 (i87 : Nat) (v56 : List GateChoice) (v61 : List (List Int)) (x89 : List Int) : Nat → Nat → (List ModelPart) → Option (((List ModelPart)))
 | 0, i110, v113 => (some v113)
 | rest111 + 1, i110, v113 => (bif inb (i110 : Int) 2 then (bif decide (0 ≤ (at0 x89 (i110 : Int))) then (bif inb (i87 : Int) v61.length then (bif inb (i110 : Int) 2 then (bif inb (i87 : Int) v56.length then (bif inb (i87 : Int) v56.length then (bif inb (i110 : Int) ([(at0 v56 (i87 : Int)).W1, (at0 v56 (i87 : Int)).W2] : List Int).length then (bif lim (v113.length + ([(⟨(i87 : Int), (i110 : Int), (at0 (at0 v61 (i87 : Int)) (i110 : Int)), (at0 ([(at0 v56 (i87 : Int)).W1, (at0 v56 (i87 : Int)).W2] : List Int) (i110 : Int))⟩ : ModelPart)] : List ModelPart).length) then (model_Parts_l3 i87 v56 v61 x89 rest111 (i110 + 1) (v113 ++ ([(⟨(i87 : Int), (i110 : Int), (at0 (at0 v61 (i87 : Int)) (i110 : Int)), (at0 ([(at0 v56 (i87 : Int)).W1, (at0 v56 (i87 : Int)).W2] : List Int) (i110 : Int))⟩ : ModelPart)] : List ModelPart))) else none) else none) else none) else none) else none) else none) else (model_Parts_l3 i87 v56 v61 x89 rest111 (i110 + 1) v113)) else none)
def model_Parts_l2 (v56 : List GateChoice) (v61 : List (List Int)) : List (List Int) → Nat → (List ModelPart) → Option (((List ModelPart)))
 | [], i87, v90 => (some v90)
 | x89 :: rest88, i87, v90 => (bif limI 2 then ((model_Parts_l3 i87 v56 v61 x89 (Int.toNat 2) 0 v90).bind fun v158 => (model_Parts_l2 v56 v61 rest88 (i87 + 1) v158)) else none)
def model_Parts (p0 : ApiLayer) (p1 : List (List Int)) : Option ((List ModelPart)) := ((model_Parts_l1 p0 p1 0 ([] : List GateChoice) ([] : List (List Int))).bind fun o => match o with | (v56, v61) => ((slots_Assign v61 (p0.Experts.length : Int) p0.Capacity).bind fun t73 => ((model_Parts_l2 v56 v61 t73 0 ([] : List ModelPart)).bind fun v172 => (some v172))))
def fleet_Fleet_begin (p0 : FleetFleet) : Option FleetFleet := (bif decide ((p0.m.Layers.length : Int) ≤ p0.at_) then (some p0) else (bif inb p0.at_ p0.m.Layers.length then ((model_Parts (⟨(at0 p0.m.Layers p0.at_).Gate, (at0 p0.m.Layers p0.at_).Experts, (at0 p0.m.Layers p0.at_).Capacity⟩ : ApiLayer) p0.tokens).bind fun t41 => (bif mkOk ((({ p0 with parts := t41 } : FleetFleet).parts).length : Int) then (bif mkOk ((({ ({ p0 with parts := t41 } : FleetFleet) with answers := (List.replicate (Int.toNat ((({ p0 with parts := t41 } : FleetFleet).parts).length : Int)) ([] : List Int)) } : FleetFleet).parts).length : Int) then ((fleet_Fleet_Ask ({ ({ ({ p0 with parts := t41 } : FleetFleet) with answers := (List.replicate (Int.toNat ((({ p0 with parts := t41 } : FleetFleet).parts).length : Int)) ([] : List Int)) } : FleetFleet) with answered := (List.replicate (Int.toNat ((({ ({ p0 with parts := t41 } : FleetFleet) with answers := (List.replicate (Int.toNat ((({ p0 with parts := t41 } : FleetFleet).parts).length : Int)) ([] : List Int)) } : FleetFleet).parts).length : Int)) (false : Bool)) } : FleetFleet)).bind fun t78 => (some t78)) else none) else none)) else none))
def vec_Add_1 (p0 : Int) (p1 : Int) (q_0 : List Int) : Option Int := (bif inb p0 q_0.length then ((fix_Add p1 (at0 q_0 p0)).bind fun t9 => (some t9)) else none)
def vec_each_vec_Add_1_l1 (q1_0 : List Int) : List Int → Nat → (List Int) → Option (((List Int)))
 | [], i4, v7 => (some v7)
 | x6 :: rest5, i4, v7 => ((vec_Add_1 (i4 : Int) x6 q1_0).bind fun t16 => (bif lim (v7.length + ([t16] : List Int).length) then (vec_each_vec_Add_1_l1 q1_0 rest5 (i4 + 1) (v7 ++ ([t16] : List Int))) else none))
def vec_each_vec_Add_1 (p0 : List Int) (q1_0 : List Int) : Option ((List Int)) := ((vec_each_vec_Add_1_l1 q1_0 p0 0 ([] : List Int)).bind fun v32 => (some v32))
def vec_Add (p0 : List Int) (p1 : List Int) : Option ((List Int) × Bool) := (bif (p0.length : Int) != (p1.length : Int) then (some (([] : List Int), false)) else ((vec_each_vec_Add_1 p0 p1).bind fun t7 => (some (t7, true))))
def vec_Scale_1 (p0 : Int) (p1 : Int) (q_0 : Int) : Option Int := ((fix_Mul p1 q_0).bind fun t1 => (some t1))
def vec_each_vec_Scale_1_l1 (q1_0 : Int) : List Int → Nat → (List Int) → Option (((List Int)))
 | [], i4, v7 => (some v7)
 | x6 :: rest5, i4, v7 => ((vec_Scale_1 (i4 : Int) x6 q1_0).bind fun t16 => (bif lim (v7.length + ([t16] : List Int).length) then (vec_each_vec_Scale_1_l1 q1_0 rest5 (i4 + 1) (v7 ++ ([t16] : List Int))) else none))
def vec_each_vec_Scale_1 (p0 : List Int) (q1_0 : Int) : Option ((List Int)) := ((vec_each_vec_Scale_1_l1 q1_0 p0 0 ([] : List Int)).bind fun v32 => (some v32))
def vec_Scale (p0 : List Int) (p1 : Int) : Option ((List Int)) := ((vec_each_vec_Scale_1 p0 p1).bind fun t6 => (some t6))
def slices_Index_bool_ro0_l1 (p0 : List Bool) (p1 : Bool) : Nat → Nat → Option (LR Unit Int)
 | 0, i4 => (some (.out ()))
 | rest5 + 1, i4 => (bif inb (i4 : Int) p0.length then (bif p1 == (at0 p0 (i4 : Int)) then (some (.ret (i4 : Int))) else (slices_Index_bool_ro0_l1 p0 p1 rest5 (i4 + 1))) else none)
def slices_Index_bool_ro0 (p0 : List Bool) (p1 : Bool) : Option Int := (bif limI (p0.length : Int) then ((slices_Index_bool_ro0_l1 p0 p1 (Int.toNat (p0.length : Int)) 0).bind fun o => match o with | .ret r => some r | .out () => (some (-1))) else none)
def slices_Contains_bool_ro0 (p0 : List Bool) (p1 : Bool) : Option Bool := ((slices_Index_bool_ro0 p0 p1).bind fun t1 => (some (decide (0 ≤ t1))))
def model_Combine_ro2_l1 (p2 : List (List Int)) : List ModelPart → Nat → (List (List Int)) → Option (((List (List Int))))
 | [], i15, v18 => (some v18)
 | x17 :: rest16, i15, v18 => (bif ((decide ((p2.length : Int) ≤ (i15 : Int))) || (decide (x17.Token < 0))) || (decide ((v18.length : Int) ≤ x17.Token)) then (model_Combine_ro2_l1 p2 rest16 (i15 + 1) v18) else (bif inb x17.Token v18.length then (bif inb (i15 : Int) p2.length then ((vec_Scale (at0 p2 (i15 : Int)) x17.Weight).bind fun t57 => ((vec_Add (at0 v18 x17.Token) t57).bind fun t65 => (bif t65.2 then (bif inb x17.Token v18.length then (model_Combine_ro2_l1 p2 rest16 (i15 + 1) (List.set v18 (Int.toNat x17.Token) t65.1)) else none) else (model_Combine_ro2_l1 p2 rest16 (i15 + 1) v18)))) else none) else none))
def model_Combine_ro2 (p0 : List (List Int)) (p1 : List ModelPart) (p2 : List (List Int)) : Option ((List (List Int))) := ((slices_Clone__int p0).bind fun t1 => ((model_Combine_ro2_l1 p2 p1 0 t1).bind fun v84 => (some v84)))
def fleet_Fleet_come_l1 : Nat → FleetFleet → Option (FleetFleet)
 | 0, _ => none
 | rest5 + 1, v7 => (bif decide (v7.at_ < (v7.m.Layers.length : Int)) then ((slices_Contains_bool_ro0 v7.answered false).bind fun t29 => (bif !t29 then ((model_Combine_ro2 v7.tokens v7.parts v7.answers).bind fun t50 => ((fleet_Fleet_begin ({ ({ v7 with tokens := t50 } : FleetFleet) with at_ := i64w ((({ v7 with tokens := t50 } : FleetFleet).at_) + 1) } : FleetFleet)).bind fun t69 => (fleet_Fleet_come_l1 rest5 t69))) else (some v7))) else (some v7))
def fleet_Fleet_come (p0 : FleetFleet) : Option FleetFleet := ((fleet_Fleet_come_l1 FUEL p0).bind fun v90 => (some v90))
def fleet_New_1 (p0 : ApiLayer) (q_0 : PlaceMap) : Option Bool := (some (decide ((q_0.Holders.length : Int) < (p0.Experts.length : Int))))
def slices_IndexFunc_api_Layer_fleet_New_1_l1 (q1_0 : PlaceMap) : List ApiLayer → Nat → Option (LR Unit Int)
 | [], i4 => (some (.out ()))
 | x6 :: rest5, i4 => ((fleet_New_1 x6 q1_0).bind fun t20 => (bif t20 then (some (.ret (i4 : Int))) else (slices_IndexFunc_api_Layer_fleet_New_1_l1 q1_0 rest5 (i4 + 1))))
def slices_IndexFunc_api_Layer_fleet_New_1 (p0 : List ApiLayer) (q1_0 : PlaceMap) : Option Int := ((slices_IndexFunc_api_Layer_fleet_New_1_l1 q1_0 p0 0).bind fun o => match o with | .ret r => some r | .out () => (some (-1)))
def slices_ContainsFunc_api_Layer_fleet_New_1 (p0 : List ApiLayer) (q1_0 : PlaceMap) : Option Bool := ((slices_IndexFunc_api_Layer_fleet_New_1 p0 q1_0).bind fun t1 => (some (decide (0 ≤ t1))))
def fleet_New (p0 : ApiModel) (p1 : PlaceMap) (p2 : List (List Int)) : Option ((Option FleetFleet) × Int) := ((model_Right p0).bind fun t5 => (bif !t5 then (some (none, 1)) else ((model_Tokens p0 p2).bind fun t11 => (bif !t11 then (some (none, 1)) else ((place_Right p1).bind fun t17 => (bif !t17 then (some (none, 1)) else ((slices_ContainsFunc_api_Layer_fleet_New_1 p0.Layers p1).bind fun t26 => (bif t26 then (some (none, 1)) else ((slices_Clone__int p2).bind fun t39 => ((fleet_Fleet_begin (⟨p0, p1, (List.replicate 5 ([] : List LedgerEntry)), ([] : List Str), t39, (0 : Int), ([] : List ModelPart), ([] : List (List Int)), ([] : List Bool)⟩ : FleetFleet)).bind fun t56 => ((fleet_Fleet_come t56).bind fun t75 => (some (some t75, 0)))))))))))))
def slices_Delete_string (p0 : List Str) (p1 p2 : Int) : Option (List Str) := deleteM p0 p1 p2
def bag_Take (p0 : List Str) (p1 : Int) : Option (Str × (List Str) × Bool) := (bif (decide (p1 < 0)) || (decide ((p0.length : Int) ≤ p1)) then ((slices_Clone_string p0).bind fun t2 => (some (([] : Str), t2, false))) else (bif inb p1 p0.length then ((slices_Clone_string p0).bind fun t21 => ((slices_Delete_string t21 p1 (i64w (p1 + 1))).bind fun t32 => (some ((at0 p0 p1), t32, true)))) else none))
def wire_number_l1 (p0 : Str) (p1 : Int) : Nat → Int → Int → Option ((Int × Int))
 | 0, _, _ => none
 | rest5 + 1, v7, v8 => (bif decide (0 ≤ v8) then (bif inb (i64w ((i64w (4 * p1)) + v8)) p0.length then (wire_number_l1 p0 p1 rest5 (ibits .or .i64 (i64w (v7 * 2 ^ Int.toNat 8)) (i64w (chr p0 (i64w ((i64w (4 * p1)) + v8))))) (i64w (v8 - 1))) else none) else (some (v7, v8)))
def wire_number (p0 : Str) (p1 : Int) : Option Int := ((wire_number_l1 p0 p1 FUEL 0 3).bind fun o => match o with | (v13, v14) => (some v13))
def wire_signed (p0 : Int) : Option Int := (some (i64w (i32w p0)))
def wire_Take_l1 (p0 : Str) : Nat → Nat → (List Int) → Option (((List Int)))
 | 0, i35, v38 => (some v38)
 | rest36 + 1, i35, v38 => ((wire_number p0 (i35 : Int)).bind fun t44 => (bif inb (i35 : Int) v38.length then (wire_Take_l1 p0 rest36 (i35 + 1) (List.set v38 (Int.toNat (i35 : Int)) t44)) else none))
def wire_Take_l2 : List Int → Nat → (List Int) → Option (((List Int)))
 | [], i118, v121 => (some v121)
 | x120 :: rest119, i118, v121 => ((wire_signed x120).bind fun t131 => (bif lim (v121.length + ([t131] : List Int).length) then (wire_Take_l2 rest119 (i118 + 1) (v121 ++ ([t131] : List Int))) else none))
def wire_Take (p0 : Str) : Option (ApiMsg × Int) := (bif decide ((p0.length : Int) < 52) then (some ((⟨0, 0, 0, 0, 0, 0, 0, 0, 0, 0, ([] : List Int)⟩ : ApiMsg), 2)) else ((wire_number p0 0).bind fun t5 => (bif t5 != (i64w ((p0.length : Int) - 4)) then (some ((⟨0, 0, 0, 0, 0, 0, 0, 0, 0, 0, ([] : List Int)⟩ : ApiMsg), 2)) else (bif (Int.tmod (p0.length : Int) 4) != 0 then (some ((⟨0, 0, 0, 0, 0, 0, 0, 0, 0, 0, ([] : List Int)⟩ : ApiMsg), 2)) else (bif cutOk 4 (i64w (4 * (i64w ((i64w (Int.tdiv (p0.length : Int) 4)) - 1)))) p0.length then ((wire_number p0 (i64w ((i64w (Int.tdiv (p0.length : Int) 4)) - 1))).bind fun t16 => ((crc_Sum (cut p0 4 (i64w (4 * (i64w ((i64w (Int.tdiv (p0.length : Int) 4)) - 1)))))).bind fun t21 => (bif t16 != t21 then (some ((⟨0, 0, 0, 0, 0, 0, 0, 0, 0, 0, ([] : List Int)⟩ : ApiMsg), 9)) else (bif mkOk (i64w ((i64w (Int.tdiv (p0.length : Int) 4)) - 1)) then (bif limI ((List.replicate (Int.toNat (i64w ((i64w (Int.tdiv (p0.length : Int) 4)) - 1))) (0 : Int)).length : Int) then ((wire_Take_l1 p0 (Int.toNat ((List.replicate (Int.toNat (i64w ((i64w (Int.tdiv (p0.length : Int) 4)) - 1))) (0 : Int)).length : Int)) 0 (List.replicate (Int.toNat (i64w ((i64w (Int.tdiv (p0.length : Int) 4)) - 1))) (0 : Int))).bind fun v59 => (bif inb 1 v59.length then (bif inb 2 v59.length then (bif inb 3 v59.length then (bif inb 4 v59.length then (bif inb 5 v59.length then (bif inb 6 v59.length then (bif inb 7 v59.length then (bif inb 8 v59.length then (bif inb 9 v59.length then (bif inb 10 v59.length then (bif cutOk 12 (v59.length : Int) v59.length then ((wire_Take_l2 (lcut v59 12 (v59.length : Int)) 0 ([] : List Int)).bind fun v148 => (bif inb 11 v59.length then (bif (at0 v59 11) != (v148.length : Int) then (some ((⟨0, 0, 0, 0, 0, 0, 0, 0, 0, 0, ([] : List Int)⟩ : ApiMsg), 2)) else ((wire_Right (⟨(at0 v59 1), (at0 v59 2), (at0 v59 3), (at0 v59 4), (at0 v59 5), (at0 v59 6), (at0 v59 7), (at0 v59 8), (at0 v59 9), (at0 v59 10), v148⟩ : ApiMsg)).bind fun t167 => (bif !t167 then (some ((⟨0, 0, 0, 0, 0, 0, 0, 0, 0, 0, ([] : List Int)⟩ : ApiMsg), 2)) else (some ((⟨(at0 v59 1), (at0 v59 2), (at0 v59 3), (at0 v59 4), (at0 v59 5), (at0 v59 6), (at0 v59 7), (at0 v59 8), (at0 v59 9), (at0 v59 10), v148⟩ : ApiMsg), 0))))) else none)) else none) else none) else none) else none) else none) else none) else none) else none) else none) else none) else none)) else none) else none)))) else none)))))
def fleet_Fleet_answer_1 (p0 : ModelPart) (q_0 : ApiMsg) : Option Bool := (bif p0.Token == q_0.Token then (bif p0.Rank == q_0.Rank then (some (p0.Expert == q_0.Expert)) else (some false)) else (some false))
def slices_IndexFunc_model_Part_fleet_Fleet_answer_1_l1 (q1_0 : ApiMsg) : List ModelPart → Nat → Option (LR Unit Int)
 | [], i4 => (some (.out ()))
 | x6 :: rest5, i4 => ((fleet_Fleet_answer_1 x6 q1_0).bind fun t14 => (bif t14 then (some (.ret (i4 : Int))) else (slices_IndexFunc_model_Part_fleet_Fleet_answer_1_l1 q1_0 rest5 (i4 + 1))))
def slices_IndexFunc_model_Part_fleet_Fleet_answer_1 (p0 : List ModelPart) (q1_0 : ApiMsg) : Option Int := ((slices_IndexFunc_model_Part_fleet_Fleet_answer_1_l1 q1_0 p0 0).bind fun o => match o with | .ret r => some r | .out () => (some (-1)))
def fleet_Fleet_answer (p0 : FleetFleet) (p1 : ApiMsg) : Option FleetFleet := (bif ((((p1.Kind != 2) || (p1.Batch != 1)) || (p1.Layer != p0.at_)) || ((p1.Vec.length : Int) != p0.m.Dim)) || (decide ((p0.m.Layers.length : Int) ≤ p0.at_)) then (some p0) else ((slices_IndexFunc_model_Part_fleet_Fleet_answer_1 p0.parts p1).bind fun t29 => (bif decide (t29 < 0) then (some p0) else (bif inb t29 p0.answered.length then (bif (at0 p0.answered t29) then (some p0) else (bif inb t29 p0.answers.length then (bif inb t29 p0.answered.length then ((fleet_Fleet_come ({ ({ p0 with answers := (List.set p0.answers (Int.toNat t29) p1.Vec) } : FleetFleet) with answered := (List.set p0.answered (Int.toNat t29) true) } : FleetFleet)).bind fun t67 => (some t67)) else none) else none)) else none))))
def node_fits (p0 : ApiModel) (p1 : PlaceMap) (p2 : Int) (p3 : ApiMsg) : Option Bool := ((model_Right p0).bind fun t8 => (bif t8 then ((place_Right p1).bind fun t14 => (bif t14 then ((wire_Right p3).bind fun t20 => (bif ((t20 && (p3.Kind == 1)) && (p3.To == p2)) && (decide (p3.Layer < (p0.Layers.length : Int))) then (bif inb p3.Layer p0.Layers.length then (bif decide (p3.Expert < (((at0 p0.Layers p3.Layer).Experts).length : Int)) then ((model_Tokens p0 ([p3.Vec] : List (List Int))).bind fun t42 => (some t42)) else (some false)) else none) else (some false))) else (some false))) else (some false)))
def slices_Index_int_l1 (p1 : Int) : List Int → Nat → Option (LR Unit Int)
 | [], i4 => (some (.out ()))
 | x6 :: rest5, i4 => (bif p1 == x6 then (some (.ret (i4 : Int))) else (slices_Index_int_l1 p1 rest5 (i4 + 1)))
def slices_Index_int (p0 : List Int) (p1 : Int) : Option Int := ((slices_Index_int_l1 p1 p0 0).bind fun o => match o with | .ret r => some r | .out () => (some (-1)))
def slices_Contains_int (p0 : List Int) (p1 : Int) : Option Bool := ((slices_Index_int p0 p1).bind fun t1 => (some (decide (0 ≤ t1))))
def place_Holds (p0 : PlaceMap) (p1 : Int) (p2 : Int) : Option Bool := (bif (decide (0 ≤ p1)) && (decide (p1 < (p0.Holders.length : Int))) then (bif inb p1 p0.Holders.length then ((slices_Contains_int (at0 p0.Holders p1) p2).bind fun t12 => (some t12)) else none) else (some false))
def slices_Clone_int (p0 : List Int) : Option (List Int) := cloneM p0
def ledger_Find_1 (p0 : LedgerEntry) (q_0 : LedgerKey) : Option Bool := (some (ieqs [p0.Key.Batch, p0.Key.Layer, p0.Key.Token, p0.Key.Rank] [q_0.Batch, q_0.Layer, q_0.Token, q_0.Rank]))
def slices_IndexFunc_ledger_Entry_ledger_Find_1_l1 (q1_0 : LedgerKey) : List LedgerEntry → Nat → Option (LR Unit Int)
 | [], i4 => (some (.out ()))
 | x6 :: rest5, i4 => ((ledger_Find_1 x6 q1_0).bind fun t17 => (bif t17 then (some (.ret (i4 : Int))) else (slices_IndexFunc_ledger_Entry_ledger_Find_1_l1 q1_0 rest5 (i4 + 1))))
def slices_IndexFunc_ledger_Entry_ledger_Find_1 (p0 : List LedgerEntry) (q1_0 : LedgerKey) : Option Int := ((slices_IndexFunc_ledger_Entry_ledger_Find_1_l1 q1_0 p0 0).bind fun o => match o with | .ret r => some r | .out () => (some (-1)))
def ledger_Find (p0 : List LedgerEntry) (p1 : LedgerKey) : Option ((List Int) × Bool) := ((slices_IndexFunc_ledger_Entry_ledger_Find_1 p0 p1).bind fun t6 => (bif decide (t6 < 0) then (some (([] : List Int), false)) else (bif inb t6 p0.length then ((slices_Clone_int ((at0 p0 t6).Vec)).bind fun t20 => (some (t20, true))) else none)))
def vec_Relu_1 (p0 : Int) (p1 : Int) : Option Int := ((fix_Hold p1).bind fun t1 => (some (iMax t1 0)))
def vec_each_vec_Relu_1_l1 : List Int → Nat → (List Int) → Option (((List Int)))
 | [], i4, v7 => (some v7)
 | x6 :: rest5, i4, v7 => ((vec_Relu_1 (i4 : Int) x6).bind fun t16 => (bif lim (v7.length + ([t16] : List Int).length) then (vec_each_vec_Relu_1_l1 rest5 (i4 + 1) (v7 ++ ([t16] : List Int))) else none))
def vec_each_vec_Relu_1 (p0 : List Int) : Option ((List Int)) := ((vec_each_vec_Relu_1_l1 p0 0 ([] : List Int)).bind fun v32 => (some v32))
def vec_Relu (p0 : List Int) : Option ((List Int)) := ((vec_each_vec_Relu_1 p0).bind fun t1 => (some t1))
def expert_Run (p0 : ApiExpert) (p1 : List Int) : Option ((List Int) × Bool) := ((expert_Right p0 (p1.length : Int)).bind fun t3 => (bif !t3 then (some (([] : List Int), false)) else ((mat_Apply p0.In p1).bind fun t9 => ((vec_Relu t9.1).bind fun t18 => ((mat_Apply p0.Out t18).bind fun t26 => (some (t26.1, t26.2)))))))
def slices_Clone_ledger_Entry (p0 : List LedgerEntry) : Option (List LedgerEntry) := cloneM p0
def ledger_Enter (p0 : List LedgerEntry) (p1 : LedgerKey) (p2 : List Int) : Option ((List LedgerEntry) × Bool) := ((ledger_Find p0 p1).bind fun t3 => (bif t3.2 then (some (p0, false)) else ((slices_Clone_ledger_Entry p0).bind fun t13 => ((slices_Clone_int p2).bind fun t24 => (bif lim (t13.length + ([(⟨(⟨p1.Batch, p1.Layer, p1.Token, p1.Rank⟩ : LedgerKey), t24⟩ : LedgerEntry)] : List LedgerEntry).length) then (some ((t13 ++ ([(⟨(⟨p1.Batch, p1.Layer, p1.Token, p1.Rank⟩ : LedgerKey), t24⟩ : LedgerEntry)] : List LedgerEntry)), true)) else none)))))
def node_Work (p0 : ApiModel) (p1 : PlaceMap) (p2 : Int) (p3 : List LedgerEntry) (p4 : ApiMsg) : Option ((List LedgerEntry) × ApiMsg × Bool) := ((node_fits p0 p1 p2 p4).bind fun t9 => (bif !t9 then (some (p3, (⟨0, 0, 0, 0, 0, 0, 0, 0, 0, 0, ([] : List Int)⟩ : ApiMsg), false)) else (bif p4.Epoch != p1.Epoch then (some (p3, (⟨3, p2, p4.From, p4.Seq, p4.Batch, p4.Layer, p4.Token, p4.Rank, p4.Expert, p1.Epoch, ([] : List Int)⟩ : ApiMsg), true)) else ((place_Holds p1 p4.Expert p2).bind fun t28 => (bif !t28 then (some (p3, (⟨3, p2, p4.From, p4.Seq, p4.Batch, p4.Layer, p4.Token, p4.Rank, p4.Expert, p1.Epoch, ([] : List Int)⟩ : ApiMsg), true)) else ((ledger_Find p3 (⟨p4.Batch, p4.Layer, p4.Token, p4.Rank⟩ : LedgerKey)).bind fun t39 => (bif !t39.2 then (bif inb p4.Layer p0.Layers.length then (bif inb p4.Expert ((at0 p0.Layers p4.Layer).Experts).length then ((expert_Run (⟨(at0 ((at0 p0.Layers p4.Layer).Experts) p4.Expert).In, (at0 ((at0 p0.Layers p4.Layer).Experts) p4.Expert).Out⟩ : ApiExpert) p4.Vec).bind fun t70 => ((ledger_Enter p3 (⟨p4.Batch, p4.Layer, p4.Token, p4.Rank⟩ : LedgerKey) t70.1).bind fun t78 => (some (t78.1, (⟨2, p2, p4.From, p4.Seq, p4.Batch, p4.Layer, p4.Token, p4.Rank, p4.Expert, p1.Epoch, t70.1⟩ : ApiMsg), true)))) else none) else none) else (some (p3, (⟨2, p2, p4.From, p4.Seq, p4.Batch, p4.Layer, p4.Token, p4.Rank, p4.Expert, p1.Epoch, t39.1⟩ : ApiMsg), true)))))))))
def fleet_Fleet_Deliver (p0 : FleetFleet) (p1 : Int) : Option (FleetFleet × Int) := ((bag_Take p0.bag p1).bind fun t7 => (bif !t7.2.2 then (some (p0, 4)) else ((wire_Take t7.1).bind fun t19 => (bif t19.2 != 0 then (some (({ p0 with bag := t7.2.1 } : FleetFleet), 0)) else (bif t19.1.To == 0 then ((fleet_Fleet_answer ({ p0 with bag := t7.2.1 } : FleetFleet) (⟨t19.1.Kind, t19.1.From, t19.1.To, t19.1.Seq, t19.1.Batch, t19.1.Layer, t19.1.Token, t19.1.Rank, t19.1.Expert, t19.1.Epoch, t19.1.Vec⟩ : ApiMsg)).bind fun t32 => (some (t32, 0))) else (bif decide (t19.1.To ≤ 4) then (bif inb t19.1.To 5 then ((node_Work (⟨(({ p0 with bag := t7.2.1 } : FleetFleet).m).Dim, (({ p0 with bag := t7.2.1 } : FleetFleet).m).Layers⟩ : ApiModel) (⟨(({ p0 with bag := t7.2.1 } : FleetFleet).p).Epoch, (({ p0 with bag := t7.2.1 } : FleetFleet).p).Holders⟩ : PlaceMap) t19.1.To (at0 (({ p0 with bag := t7.2.1 } : FleetFleet).ledgers) t19.1.To) (⟨t19.1.Kind, t19.1.From, t19.1.To, t19.1.Seq, t19.1.Batch, t19.1.Layer, t19.1.Token, t19.1.Rank, t19.1.Expert, t19.1.Epoch, t19.1.Vec⟩ : ApiMsg)).bind fun t72 => (bif inb t19.1.To 5 then (bif t72.2.2 then ((fleet_Fleet_send ({ ({ p0 with bag := t7.2.1 } : FleetFleet) with ledgers := (List.set (({ p0 with bag := t7.2.1 } : FleetFleet).ledgers) (Int.toNat t19.1.To) t72.1) } : FleetFleet) (⟨t72.2.1.Kind, t72.2.1.From, t72.2.1.To, t72.2.1.Seq, t72.2.1.Batch, t72.2.1.Layer, t72.2.1.Token, t72.2.1.Rank, t72.2.1.Expert, t72.2.1.Epoch, t72.2.1.Vec⟩ : ApiMsg)).bind fun t92 => (some (t92, 0))) else (some (({ ({ p0 with bag := t7.2.1 } : FleetFleet) with ledgers := (List.set (({ p0 with bag := t7.2.1 } : FleetFleet).ledgers) (Int.toNat t19.1.To) t72.1) } : FleetFleet), 0))) else none)) else none) else (some (({ p0 with bag := t7.2.1 } : FleetFleet), 0))))))))
def fleet_Fleet_Done (p0 : FleetFleet) : Option (FleetFleet × (List (List Int)) × Bool) := (bif decide (p0.at_ < (p0.m.Layers.length : Int)) then (some (p0, ([] : List (List Int)), false)) else ((slices_Clone__int p0.tokens).bind fun t18 => (some (p0, t18, true))))
def fleet_Fleet_Worked_l1 (p0 : FleetFleet) : Nat → Nat → Int → Option (Int)
 | 0, i7, v10 => (some v10)
 | rest8 + 1, i7, v10 => (bif inb (i7 : Int) 5 then (fleet_Fleet_Worked_l1 p0 rest8 (i7 + 1) (i64w (v10 + ((at0 p0.ledgers (i7 : Int)).length : Int)))) else none)
def fleet_Fleet_Worked (p0 : FleetFleet) : Option (FleetFleet × Int) := (bif limI 5 then ((fleet_Fleet_Worked_l1 p0 (Int.toNat 5) 0 0).bind fun v21 => (some (p0, v21))) else none)
def fleet_Fleet_Bag (p0 : FleetFleet) : Option (FleetFleet × (List Str)) := ((slices_Clone_string p0.bag).bind fun t7 => (some (p0, t7)))
def fleet_Fleet_Drop (p0 : FleetFleet) (p1 : Int) : Option (FleetFleet × Int) := ((bag_Take p0.bag p1).bind fun t7 => (bif !t7.2.2 then (some (({ p0 with bag := t7.2.1 } : FleetFleet), 4)) else (some (({ p0 with bag := t7.2.1 } : FleetFleet), 0))))
def switchboardlaw19_awake : Option Bool := ((fleet_New (⟨1, ([(⟨([([65536] : List Int)] : List (List Int)), ([(⟨([([65536] : List Int)] : List (List Int)), ([([65536] : List Int)] : List (List Int))⟩ : ApiExpert)] : List ApiExpert), 1⟩ : ApiLayer)] : List ApiLayer)⟩ : ApiModel) (⟨0, ([([2] : List Int)] : List (List Int))⟩ : PlaceMap) ([([7] : List Int)] : List (List Int))).bind fun t60 => match t60.1 with | none => (some false) | some x67 => (bif t60.2 != 0 then (some false) else ((fleet_Fleet_Bag x67).bind fun t83 => (bif (t83.2.length : Int) != 1 then (some false) else ((fleet_Fleet_Deliver t83.1 0).bind fun t106 => (bif t106.2 != 0 then (some false) else ((fleet_Fleet_Deliver t106.1 0).bind fun t126 => (bif t126.2 != 0 then (some false) else ((fleet_Fleet_Done t126.1).bind fun t146 => (bif t146.2.2 && ((t146.2.1.length : Int) == 1) then (bif inb 0 t146.2.1.length then (bif ((at0 t146.2.1 0).length : Int) == 1 then (bif inb 0 t146.2.1.length then (bif inb 0 (at0 t146.2.1 0).length then (bif (at0 (at0 t146.2.1 0) 0) == 14 then ((fleet_Fleet_Worked t146.1).bind fun t191 => (bif t191.2 == 1 then ((fleet_Fleet_Drop t191.1 0).bind fun t211 => (some (t211.2 == 4))) else (some false))) else (some false)) else none) else none) else (some false)) else none) else (some false)))))))))))
def switchboardref01_Hold (p0 : Int) : Option Int := (bif decide (2147483647 < p0) then (some 2147483647) else (bif decide (p0 < (-2147483647)) then (some (-2147483647)) else (some p0)))
def switchboardref01_Mul (p0 : Int) (p1 : Int) : Option Int := ((switchboardref01_Hold p0).bind fun t1 => ((switchboardref01_Hold p1).bind fun t6 => (bif decide (t1 < 0) then (bif decide (t6 < 0) then (bif !(!false) then ((switchboardref01_Hold (i64w (0 - (i64w (Int.tdiv (i64w ((i64w (0 - t1)) * (i64w (0 - t6)))) 65536))))).bind fun t14 => (some t14)) else ((switchboardref01_Hold (i64w (Int.tdiv (i64w ((i64w (0 - t1)) * (i64w (0 - t6)))) 65536))).bind fun t19 => (some t19))) else (bif !false then ((switchboardref01_Hold (i64w (0 - (i64w (Int.tdiv (i64w ((i64w (0 - t1)) * t6)) 65536))))).bind fun t25 => (some t25)) else ((switchboardref01_Hold (i64w (Int.tdiv (i64w ((i64w (0 - t1)) * t6)) 65536))).bind fun t30 => (some t30)))) else (bif decide (t6 < 0) then (bif !false then ((switchboardref01_Hold (i64w (0 - (i64w (Int.tdiv (i64w (t1 * (i64w (0 - t6)))) 65536))))).bind fun t37 => (some t37)) else ((switchboardref01_Hold (i64w (Int.tdiv (i64w (t1 * (i64w (0 - t6)))) 65536))).bind fun t42 => (some t42))) else ((switchboardref01_Hold (i64w (Int.tdiv (i64w (t1 * t6)) 65536))).bind fun t47 => (some t47))))))
def switchboardref02_Dot_l1 (p0 : List Int) (p1 : List Int) : Nat → Int → Int → Option ((Int × Int))
 | 0, _, _ => none
 | rest5 + 1, v7, v8 => (bif decide (v8 < (p0.length : Int)) then (bif inb v8 p0.length then (bif inb v8 p1.length then ((switchboardref01_Mul (at0 p0 v8) (at0 p1 v8)).bind fun t19 => ((switchboardref01_Hold (i64w (v7 + t19))).bind fun t24 => (switchboardref02_Dot_l1 p0 p1 rest5 t24 (i64w (v8 + 1))))) else none) else none) else (some (v7, v8)))
def switchboardref02_Dot (p0 : List Int) (p1 : List Int) : Option Int := ((switchboardref02_Dot_l1 p0 p1 FUEL 0 0).bind fun o => match o with | (v31, v32) => (some v31))
def switchboardref03_Apply_l1 (p0 : List (List Int)) (p1 : List Int) : Nat → (List Int) → Int → Option (LR ((List Int) × Int) ((List Int) × Bool))
 | 0, _, _ => none
 | rest5 + 1, v7, v12 => (bif decide (v12 < (p0.length : Int)) then (bif inb v12 p0.length then (bif ((at0 p0 v12).length : Int) != (p1.length : Int) then (some (.ret (([] : List Int), false))) else (bif inb v12 p0.length then ((switchboardref02_Dot (at0 p0 v12) p1).bind fun t31 => (bif lim (v7.length + ([t31] : List Int).length) then (switchboardref03_Apply_l1 p0 p1 rest5 (v7 ++ ([t31] : List Int)) (i64w (v12 + 1))) else none)) else none)) else none) else (some (.out (v7, v12))))
def switchboardref03_Apply (p0 : List (List Int)) (p1 : List Int) : Option ((List Int) × Bool) := ((switchboardref03_Apply_l1 p0 p1 FUEL ([] : List Int) 0).bind fun o => match o with | .ret r => some r | .out (v47, v52) => (some (v47, true)))
def switchboardref04_Rank_l1 (p0 : List Int) (p1 : Int) : Nat → Int → Int → Option ((Int × Int))
 | 0, _, _ => none
 | rest5 + 1, v7, v8 => (bif decide (v8 < (p0.length : Int)) then (bif inb v8 p0.length then (bif inb p1 p0.length then (bif decide ((at0 p0 p1) < (at0 p0 v8)) then (switchboardref04_Rank_l1 p0 p1 rest5 (i64w (v7 + 1)) (i64w (v8 + 1))) else (bif inb v8 p0.length then (bif inb p1 p0.length then (bif ((at0 p0 v8) == (at0 p0 p1)) && (decide (v8 < p1)) then (switchboardref04_Rank_l1 p0 p1 rest5 (i64w (v7 + 1)) (i64w (v8 + 1))) else (switchboardref04_Rank_l1 p0 p1 rest5 v7 (i64w (v8 + 1)))) else none) else none)) else none) else none) else (some (v7, v8)))
def switchboardref04_Rank (p0 : List Int) (p1 : Int) : Option Int := ((switchboardref04_Rank_l1 p0 p1 FUEL 0 0).bind fun o => match o with | (v31, v32) => (some v31))
def switchboardref04_Of_l1 (p0 : List Int) (p1 : Int) : Nat → Int → Option (LR Int Int)
 | 0, _ => none
 | rest5 + 1, v7 => (bif decide (v7 < (p0.length : Int)) then ((switchboardref04_Rank p0 v7).bind fun t9 => (bif t9 == p1 then (some (.ret v7)) else (switchboardref04_Of_l1 p0 p1 rest5 (i64w (v7 + 1))))) else (some (.out v7)))
def switchboardref04_Of (p0 : List Int) (p1 : Int) : Option Int := ((switchboardref04_Of_l1 p0 p1 FUEL 0).bind fun o => match o with | .ret r => some r | .out v17 => (some (-1)))
def switchboardref05_part (p0 : Int) : Option Int := (bif decide (p0 < 0) then (some 1) else (bif decide (2147483647 < p0) then (some 2147483648) else (some (i64w (p0 + 1)))))
def switchboardref05_Share_l1 (t1 : Int) (t6 : Int) : Nat → Int → Int → Int → Option ((Int × Int × Int))
 | 0, _, _, _ => none
 | rest15 + 1, v17, v18, v19 => (bif decide (v19 < 16) then (bif decide ((i64w (t1 + t6)) ≤ (i64w (2 * v18))) then (switchboardref05_Share_l1 t1 t6 rest15 (i64w ((i64w (2 * v17)) + 1)) (i64w ((i64w (2 * v18)) - (i64w (t1 + t6)))) (i64w (v19 + 1))) else (switchboardref05_Share_l1 t1 t6 rest15 (i64w (2 * v17)) (i64w (2 * v18)) (i64w (v19 + 1)))) else (some (v17, v18, v19)))
def switchboardref05_Share (p0 : Int) (p1 : Int) : Option Int := ((switchboardref05_part p0).bind fun t1 => ((switchboardref05_part p1).bind fun t6 => ((switchboardref05_Share_l1 t1 t6 FUEL 0 t1 0).bind fun o => match o with | (v24, v25, v26) => (some v24))))
def switchboardref13_Choose (p0 : List (List Int)) (p1 : List Int) : Option (GateChoice × Bool) := ((switchboardref03_Apply p0 p1).bind fun t3 => (bif (!t3.2) || ((t3.1.length : Int) == 0) then (some ((⟨0, 0, 0, 0⟩ : GateChoice), false)) else ((switchboardref04_Of t3.1 0).bind fun t13 => ((switchboardref04_Of t3.1 1).bind fun t18 => (bif decide (0 ≤ t18) then (bif inb t13 t3.1.length then (bif inb t18 t3.1.length then ((switchboardref05_Share (at0 t3.1 t13) (at0 t3.1 t18)).bind fun t33 => (some ((⟨t13, t18, t33, i64w (65536 - t33)⟩ : GateChoice), true))) else none) else none) else (some ((⟨t13, t18, 65536, i64w (65536 - 65536)⟩ : GateChoice), true)))))))
def switchboardref14_ahead_l2 (p0 : List (List Int)) (p1 : Int) (p2 : Int) (p3 : Int) (v8 : Int) : Nat → Int → Int → Option ((Int × Int))
 | 0, _, _ => none
 | rest14 + 1, v16, v17 => (bif decide (v17 < 2) then (bif inb v8 p0.length then (bif inb v17 2 then (bif (at0 (at0 p0 v8) v17) == p3 then (bif (decide (v8 < p1)) || (decide (v17 < p2)) then (switchboardref14_ahead_l2 p0 p1 p2 p3 v8 rest14 (i64w (v16 + 1)) (i64w (v17 + 1))) else (switchboardref14_ahead_l2 p0 p1 p2 p3 v8 rest14 v16 (i64w (v17 + 1)))) else (switchboardref14_ahead_l2 p0 p1 p2 p3 v8 rest14 v16 (i64w (v17 + 1)))) else none) else none) else (some (v16, v17)))
def switchboardref14_ahead_l1 (p0 : List (List Int)) (p1 : Int) (p2 : Int) (p3 : Int) : Nat → Int → Int → Option ((Int × Int))
 | 0, _, _ => none
 | rest5 + 1, v7, v8 => (bif decide (v8 ≤ p1) then ((switchboardref14_ahead_l2 p0 p1 p2 p3 v8 FUEL v7 0).bind fun o => match o with | (v28, v29) => (switchboardref14_ahead_l1 p0 p1 p2 p3 rest5 v28 (i64w (v8 + 1)))) else (some (v7, v8)))
def switchboardref14_ahead (p0 : List (List Int)) (p1 : Int) (p2 : Int) (p3 : Int) : Option Int := ((switchboardref14_ahead_l1 p0 p1 p2 p3 FUEL 0 0).bind fun o => match o with | (v39, v40) => (some v39))
def switchboardref14_Slot (p0 : List (List Int)) (p1 : Int) (p2 : Int) (p3 : Int) (p4 : Int) : Option Int := (bif inb p3 p0.length then (bif inb p4 2 then ((switchboardref14_ahead p0 p3 p4 (at0 (at0 p0 p3) p4)).bind fun t6 => (bif ((decide ((at0 (at0 p0 p3) p4) < 0)) || (decide (p1 ≤ (at0 (at0 p0 p3) p4)))) || (decide (p2 ≤ t6)) then (some (-1)) else (some t6))) else none) else none)
def switchboardref15_Parts_l1 (p0 : ApiLayer) : List (List Int) → Nat → (List (List Int)) → Option (((List (List Int))))
 | [], i6, v9 => (some v9)
 | x8 :: rest7, i6, v9 => ((switchboardref13_Choose p0.Gate x8).bind fun t22 => (bif lim (v9.length + ([[t22.1.First, t22.1.Second]] : List (List Int)).length) then (switchboardref15_Parts_l1 p0 rest7 (i6 + 1) (v9 ++ ([[t22.1.First, t22.1.Second]] : List (List Int)))) else none))
def switchboardref15_Parts_l2 (p0 : ApiLayer) (p1 : List (List Int)) (v42 : List (List Int)) : Nat → (List ModelPart) → Int → Option (((List ModelPart) × Int))
 | 0, _, _ => none
 | rest58 + 1, v60, v65 => (bif decide (v65 < (p1.length : Int)) then (bif inb v65 p1.length then ((switchboardref13_Choose p0.Gate (at0 p1 v65)).bind fun t76 => ((switchboardref14_Slot v42 (p0.Experts.length : Int) p0.Capacity v65 0).bind fun t84 => (bif decide (0 ≤ t84) then (bif lim (v60.length + ([(⟨v65, 0, t76.1.First, t76.1.W1⟩ : ModelPart)] : List ModelPart).length) then ((switchboardref14_Slot v42 (p0.Experts.length : Int) p0.Capacity v65 1).bind fun t99 => (bif decide (0 ≤ t99) then (bif lim ((v60 ++ ([(⟨v65, 0, t76.1.First, t76.1.W1⟩ : ModelPart)] : List ModelPart)).length + ([(⟨v65, 1, t76.1.Second, t76.1.W2⟩ : ModelPart)] : List ModelPart).length) then (switchboardref15_Parts_l2 p0 p1 v42 rest58 ((v60 ++ ([(⟨v65, 0, t76.1.First, t76.1.W1⟩ : ModelPart)] : List ModelPart)) ++ ([(⟨v65, 1, t76.1.Second, t76.1.W2⟩ : ModelPart)] : List ModelPart)) (i64w (v65 + 1))) else none) else (switchboardref15_Parts_l2 p0 p1 v42 rest58 (v60 ++ ([(⟨v65, 0, t76.1.First, t76.1.W1⟩ : ModelPart)] : List ModelPart)) (i64w (v65 + 1))))) else none) else ((switchboardref14_Slot v42 (p0.Experts.length : Int) p0.Capacity v65 1).bind fun t114 => (bif decide (0 ≤ t114) then (bif lim (v60.length + ([(⟨v65, 1, t76.1.Second, t76.1.W2⟩ : ModelPart)] : List ModelPart).length) then (switchboardref15_Parts_l2 p0 p1 v42 rest58 (v60 ++ ([(⟨v65, 1, t76.1.Second, t76.1.W2⟩ : ModelPart)] : List ModelPart)) (i64w (v65 + 1))) else none) else (switchboardref15_Parts_l2 p0 p1 v42 rest58 v60 (i64w (v65 + 1)))))))) else none) else (some (v60, v65)))
def switchboardref15_Parts (p0 : ApiLayer) (p1 : List (List Int)) : Option ((List ModelPart)) := ((switchboardref15_Parts_l1 p0 p1 0 ([] : List (List Int))).bind fun v42 => ((switchboardref15_Parts_l2 p0 p1 v42 FUEL ([] : List ModelPart) 0).bind fun o => match o with | (v131, v136) => (some v131)))
def switchboardref02_Add_l1 (p0 : List Int) (p1 : List Int) : Nat → (List Int) → Int → Option (((List Int) × Int))
 | 0, _, _ => none
 | rest5 + 1, v7, v12 => (bif decide (v12 < (p0.length : Int)) then (bif inb v12 p0.length then (bif inb v12 p1.length then ((switchboardref01_Hold (at0 p0 v12)).bind fun t23 => ((switchboardref01_Hold (at0 p1 v12)).bind fun t28 => ((switchboardref01_Hold (i64w (t23 + t28))).bind fun t33 => (bif lim (v7.length + ([t33] : List Int).length) then (switchboardref02_Add_l1 p0 p1 rest5 (v7 ++ ([t33] : List Int)) (i64w (v12 + 1))) else none)))) else none) else none) else (some (v7, v12)))
def switchboardref02_Add (p0 : List Int) (p1 : List Int) : Option ((List Int)) := ((switchboardref02_Add_l1 p0 p1 FUEL ([] : List Int) 0).bind fun o => match o with | (v49, v54) => (some v49))
def switchboardref02_Scale_l1 (p0 : List Int) (p1 : Int) : Nat → (List Int) → Int → Option (((List Int) × Int))
 | 0, _, _ => none
 | rest5 + 1, v7, v12 => (bif decide (v12 < (p0.length : Int)) then (bif inb v12 p0.length then ((switchboardref01_Mul (at0 p0 v12) p1).bind fun t18 => (bif lim (v7.length + ([t18] : List Int).length) then (switchboardref02_Scale_l1 p0 p1 rest5 (v7 ++ ([t18] : List Int)) (i64w (v12 + 1))) else none)) else none) else (some (v7, v12)))
def switchboardref02_Scale (p0 : List Int) (p1 : Int) : Option ((List Int)) := ((switchboardref02_Scale_l1 p0 p1 FUEL ([] : List Int) 0).bind fun o => match o with | (v34, v39) => (some v34))
def switchboardref02_Relu_l1 (p0 : List Int) : Nat → (List Int) → Int → Option (((List Int) × Int))
 | 0, _, _ => none
 | rest5 + 1, v7, v12 => (bif decide (v12 < (p0.length : Int)) then (bif inb v12 p0.length then ((switchboardref01_Hold (at0 p0 v12)).bind fun t18 => (bif decide (t18 < 0) then (bif lim (v7.length + ([0] : List Int).length) then (switchboardref02_Relu_l1 p0 rest5 (v7 ++ ([0] : List Int)) (i64w (v12 + 1))) else none) else (bif lim (v7.length + ([t18] : List Int).length) then (switchboardref02_Relu_l1 p0 rest5 (v7 ++ ([t18] : List Int)) (i64w (v12 + 1))) else none))) else none) else (some (v7, v12)))
def switchboardref02_Relu (p0 : List Int) : Option ((List Int)) := ((switchboardref02_Relu_l1 p0 FUEL ([] : List Int) 0).bind fun o => match o with | (v44, v49) => (some v44))
def switchboardref11_Run (p0 : ApiExpert) (p1 : List Int) : Option ((List Int)) := ((switchboardref03_Apply p0.In p1).bind fun t3 => ((switchboardref02_Relu t3.1).bind fun t12 => ((switchboardref03_Apply p0.Out t12).bind fun t20 => (some t20.1))))
def switchboardref15_Forward_l3 (v9 : List (List Int)) (x8 : ApiLayer) (v48 : Int) : List ModelPart → Nat → (List Int) → Option (((List Int)))
 | [], i61, v64 => (some v64)
 | x63 :: rest62, i61, v64 => (bif x63.Token == v48 then (bif inb x63.Expert x8.Experts.length then (bif inb v48 v9.length then ((switchboardref11_Run (⟨(at0 x8.Experts x63.Expert).In, (at0 x8.Experts x63.Expert).Out⟩ : ApiExpert) (at0 v9 v48)).bind fun t101 => ((switchboardref02_Scale t101 x63.Weight).bind fun t109 => ((switchboardref02_Add v64 t109).bind fun t117 => (switchboardref15_Forward_l3 v9 x8 v48 rest62 (i61 + 1) t117)))) else none) else none) else (switchboardref15_Forward_l3 v9 x8 v48 rest62 (i61 + 1) v64))
def switchboardref15_Forward_l2 (v9 : List (List Int)) (x8 : ApiLayer) (t29 : (List ModelPart)) : Nat → (List (List Int)) → Int → Option (((List (List Int)) × Int))
 | 0, _, _ => none
 | rest41 + 1, v43, v48 => (bif decide (v48 < (v9.length : Int)) then (bif inb v48 v9.length then ((switchboardref15_Forward_l3 v9 x8 v48 t29 0 (at0 v9 v48)).bind fun v127 => (bif lim (v43.length + ([v127] : List (List Int)).length) then (switchboardref15_Forward_l2 v9 x8 t29 rest41 (v43 ++ ([v127] : List (List Int))) (i64w (v48 + 1))) else none)) else none) else (some (v43, v48)))
def switchboardref15_Forward_l1 : List ApiLayer → Nat → (List (List Int)) → Option (((List (List Int))))
 | [], i6, v9 => (some v9)
 | x8 :: rest7, i6, v9 => ((switchboardref15_Parts x8 v9).bind fun t29 => ((switchboardref15_Forward_l2 v9 x8 t29 FUEL ([] : List (List Int)) 0).bind fun o => match o with | (v152, v157) => (switchboardref15_Forward_l1 rest7 (i6 + 1) v152)))
def switchboardref15_Forward (p0 : ApiModel) (p1 : List (List Int)) : Option ((List (List Int))) := ((switchboardref15_Forward_l1 p0.Layers 0 p1).bind fun v168 => (some v168))
def switchboardref02_Same_l1 (p0 : List Int) (p1 : List Int) : Nat → Int → Option (LR Int Bool)
 | 0, _ => none
 | rest6 + 1, v8 => (bif decide (v8 < (p0.length : Int)) then (bif inb v8 p0.length then (bif inb v8 p1.length then (bif (at0 p0 v8) != (at0 p1 v8) then (some (.ret false)) else (switchboardref02_Same_l1 p0 p1 rest6 (i64w (v8 + 1)))) else none) else none) else (some (.out v8)))
def switchboardref02_Same (p0 : List Int) (p1 : List Int) : Option Bool := (bif (p0.length : Int) != (p1.length : Int) then (some false) else ((switchboardref02_Same_l1 p0 p1 FUEL 0).bind fun o => match o with | .ret r => some r | .out v22 => (some true)))
def switchboardref15_Same_l1 (p0 : List (List Int)) (p1 : List (List Int)) : Nat → Int → Option (LR Int Bool)
 | 0, _ => none
 | rest6 + 1, v8 => (bif decide (v8 < (p0.length : Int)) then (bif inb v8 p0.length then (bif inb v8 p1.length then ((switchboardref02_Same (at0 p0 v8) (at0 p1 v8)).bind fun t27 => (bif !t27 then (some (.ret false)) else (switchboardref15_Same_l1 p0 p1 rest6 (i64w (v8 + 1))))) else none) else none) else (some (.out v8)))
def switchboardref15_Same (p0 : List (List Int)) (p1 : List (List Int)) : Option Bool := (bif (p0.length : Int) != (p1.length : Int) then (some false) else ((switchboardref15_Same_l1 p0 p1 FUEL 0).bind fun o => match o with | .ret r => some r | .out v35 => (some true)))
def switchboardlaw19_FleetCounts_l1 (p0 : ApiModel) : List ApiLayer → Nat → Int → (List (List Int)) → Option ((Int × (List (List Int))))
 | [], i74, v77, v78 => (some (v77, v78))
 | x76 :: rest75, i74, v77, v78 => ((switchboardref15_Parts x76 v78).bind fun t95 => (bif cutOk (i74 : Int) (i64w ((i74 : Int) + 1)) p0.Layers.length then ((switchboardref15_Forward (⟨p0.Dim, (lcut p0.Layers (i74 : Int) (i64w ((i74 : Int) + 1)))⟩ : ApiModel) v78).bind fun t105 => (switchboardlaw19_FleetCounts_l1 p0 rest75 (i74 + 1) (i64w (v77 + (t95.length : Int))) t105)) else none))
def switchboardlaw19_FleetCounts_l2 : Nat → FleetFleet → Int → Option ((FleetFleet × Int))
 | 0, _, _ => none
 | rest128 + 1, v130, v141 => (bif decide (v141 < 1000) then ((fleet_Fleet_Deliver v130 0).bind fun t143 => (bif t143.2 == 0 then (switchboardlaw19_FleetCounts_l2 rest128 t143.1 (i64w (v141 + 1))) else (some (t143.1, v141)))) else (some (v130, v141)))
def switchboardlaw19_FleetCounts (p0 : ApiModel) (p1 : PlaceMap) (p2 : List (List Int)) : Option Bool := ((switchboardref15_Small p0).bind fun t5 => (bif !t5 then (switchboardlaw19_awake.bind fun t11 => (some t11)) else ((switchboardref03_Small p1.Holders).bind fun t16 => (bif !t16 then (switchboardlaw19_awake.bind fun t22 => (some t22)) else ((switchboardref03_Small p2).bind fun t27 => (bif !t27 then (switchboardlaw19_awake.bind fun t33 => (some t33)) else ((switchboardref19_May p0 p1 p2).bind fun t38 => (bif !t38 then (switchboardlaw19_awake.bind fun t44 => (some t44)) else ((fleet_New p0 p1 p2).bind fun t49 => match t49.1 with | none => (some false) | some x56 => ((switchboardlaw19_FleetCounts_l1 p0 p0.Layers 0 0 p2).bind fun o => match o with | (v115, v116) => ((switchboardlaw19_FleetCounts_l2 FUEL x56 0).bind fun o => match o with | (v165, v176) => ((fleet_Fleet_Done v165).bind fun t182 => (bif t182.2.2 then ((switchboardref15_Same t182.2.1 v116).bind fun t205 => (bif t205 then ((fleet_Fleet_Worked t182.1).bind fun t211 => (bif (t211.2 == v115) && (v176 == (i64w (2 * v115))) then (switchboardlaw19_awake.bind fun t231 => (some t231)) else (some false))) else (some false))) else (some false))))))))))))))
end Go.Sw

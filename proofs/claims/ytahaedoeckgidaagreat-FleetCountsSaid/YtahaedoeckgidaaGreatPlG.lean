/- The plain law: who does what. -/
import Derived.Test.YtahaedoeckgidaaGreatPlF
set_option linter.unusedVariables false
set_option linter.unusedSimpArgs false
namespace Go.Sw.FL
def chOf (g : List (List Int)) (v : List Int) : GateChoice := match gate_Choose g v with | some (c, _) => c | none => default
def pr (c : GateChoice) : List Int := [c.First, c.Second]
theorem chOf_eq {g : List (List Int)} {v : List Int} (hr : rect g v.length) (h0 : 0 < g.length) (hl : g.length ≤ 100000) (hv : v.length ≤ 100000) : gate_Choose g v = some (chOf g v, true) ∧ switchboardref13_Choose g v = some (chOf g v, true) ∧ gateOk g.length (chOf g v) := by
 obtain ⟨c, h1, h2, h3⟩ := choose_eq hr h0 hl hv
 have : chOf g v = c := by unfold chOf; rw [h1]
 rw [this]; exact ⟨h1, h2, h3⟩
def em (E cap : Int) (t : Nat) (f : Int → Nat) (c : GateChoice) : List ModelPart :=
 (if 0 ≤ sl E cap (f c.First) c.First then [⟨(t : Int), 0, c.First, c.W1⟩] else []) ++ (if 0 ≤ sl E cap (bump f c.First c.Second) c.Second then [⟨(t : Int), 1, c.Second, c.W2⟩] else [])
def partsG (E cap : Int) : Nat → (Int → Nat) → List GateChoice → List ModelPart
 | _, _, [] => []
 | t, f, c :: cs => em E cap t f c ++ partsG E cap (t + 1) (bump (bump f c.First) c.Second) cs
def parts (l : ApiLayer) (ts : List (List Int)) : List ModelPart := partsG (l.Experts.length : Int) l.Capacity 0 f0 (ts.map (chOf l.Gate))
theorem em_len (E cap : Int) (t : Nat) (f : Int → Nat) (c : GateChoice) : (em E cap t f c).length ≤ 2 := by
 unfold em; split <;> split <;> simp
theorem partsG_len (E cap : Int) : ∀ (cs : List GateChoice) (t : Nat) (f : Int → Nat), (partsG E cap t f cs).length ≤ 2 * cs.length
 | [], t, f => by simp [partsG]
 | c :: cs, t, f => by
  have h1 := em_len E cap t f c
  have h2 := partsG_len E cap cs (t + 1) (bump (bump f c.First) c.Second)
  rw [partsG]; simp; omega
theorem parts_len (l : ApiLayer) (ts : List (List Int)) : (parts l ts).length ≤ 2 * ts.length := by
 have := partsG_len (l.Experts.length : Int) l.Capacity (ts.map (chOf l.Gate)) 0 f0
 simpa [parts] using this
/-- A part of a batch of n tokens, of E experts. -/
def pOk (n : Nat) (E : Int) (p : ModelPart) : Prop := (0 ≤ p.Token ∧ p.Token < n) ∧ (p.Rank = 0 ∨ p.Rank = 1) ∧ (0 ≤ p.Expert ∧ p.Expert < E)
theorem sl_in {E cap : Int} {n : Nat} {x : Int} (h : 0 ≤ sl E cap n x) : 0 ≤ x ∧ x < E := by
 unfold sl at h; split at h
 ·next h2 => exact ⟨h2.1, h2.2.1⟩
 ·omega
theorem em_mem {E cap : Int} {t : Nat} {f : Int → Nat} {c : GateChoice} {p : ModelPart} (h : p ∈ em E cap t f c) : p.Token = t ∧ (p.Rank = 0 ∨ p.Rank = 1) ∧ (0 ≤ p.Expert ∧ p.Expert < E) := by
 unfold em at h
 rcases List.mem_append.1 h with h | h
 ·split at h
  ·next h2 => simp only [List.mem_cons, List.not_mem_nil, or_false] at h; subst h; exact ⟨rfl, .inl rfl, sl_in h2⟩
  ·cases h
 ·split at h
  ·next h2 => simp only [List.mem_cons, List.not_mem_nil, or_false] at h; subst h; exact ⟨rfl, .inr rfl, sl_in h2⟩
  ·cases h
theorem partsG_mem {E cap : Int} : ∀ (cs : List GateChoice) (t : Nat) (f : Int → Nat) (p : ModelPart), p ∈ partsG E cap t f cs → ((t : Int) ≤ p.Token ∧ p.Token < (t + cs.length : Nat)) ∧ (p.Rank = 0 ∨ p.Rank = 1) ∧ (0 ≤ p.Expert ∧ p.Expert < E)
 | [], t, f, p, h => by simp [partsG] at h
 | c :: cs, t, f, p, h => by
  rw [partsG] at h
  rcases List.mem_append.1 h with h | h
  ·have := em_mem h
   refine ⟨⟨by omega, by simp; omega⟩, this.2⟩
  ·have := partsG_mem cs (t + 1) _ p h
   refine ⟨⟨by omega, by simp; omega⟩, this.2⟩
theorem parts_mem {l : ApiLayer} {ts : List (List Int)} {p : ModelPart} (h : p ∈ parts l ts) : pOk ts.length (l.Experts.length : Int) p := by
 have := partsG_mem _ 0 f0 p h
 simp only [List.length_map] at this
 exact ⟨⟨by omega, by omega⟩, this.2⟩
def pNe (p q : ModelPart) : Prop := ¬ (p.Token = q.Token ∧ p.Rank = q.Rank)
theorem partsG_ne {E cap : Int} : ∀ (cs : List GateChoice) (t : Nat) (f : Int → Nat), (partsG E cap t f cs).Pairwise pNe
 | [], t, f => by simp [partsG]
 | c :: cs, t, f => by
  rw [partsG, List.pairwise_append]
  refine ⟨?_, partsG_ne cs _ _, fun p hp q hq => ?_⟩
  ·unfold em; split <;> split <;> simp [pNe]
  ·have h1 := em_mem hp
   have h2 := partsG_mem cs (t + 1) _ q hq
   unfold pNe; omega
theorem parts_ne (l : ApiLayer) (ts : List (List Int)) : (parts l ts).Pairwise pNe := partsG_ne _ _ _
theorem parts_l1 (l : ApiLayer) : ∀ (ts : List (List Int)) (i : Nat) (a : List GateChoice) (b : List (List Int)), (∀ v ∈ ts, gate_Choose l.Gate v = some (chOf l.Gate v, true)) → a.length + ts.length ≤ 1000000 → b.length + ts.length ≤ 1000000 →
  model_Parts_l1 l ts i a b = some (a ++ ts.map (chOf l.Gate), b ++ ts.map (fun v => pr (chOf l.Gate v)))
 | [], i, a, b, _, _, _ => by simp [model_Parts_l1]
 | v :: ts, i, a, b, h, h1, h2 => by
  rw [model_Parts_l1, h v (by simp)]
  simp only [Option.bind_some]
  refine cb_t (lim_t (by simp at h1 ⊢; omega)) (cb_t (lim_t (by simp at h2 ⊢; omega)) ?_)
  rw [parts_l1 l ts (i + 1) _ _ (fun x hx => h x (by simp [hx])) (by simp at h1 ⊢; omega) (by simp at h2 ⊢; omega)]
  simp [pr]
theorem parts_l3 (C : List GateChoice) (t : Nat) (ht : t < C.length) (x : List Int) (acc : List ModelPart) (hacc : acc.length ≤ 1000000) :
  model_Parts_l3 t C (C.map pr) x 2 0 acc = some (acc ++ ((if 0 ≤ at0 x 0 then [(⟨(t : Int), 0, C[t].First, C[t].W1⟩ : ModelPart)] else []) ++ (if 0 ≤ at0 x 1 then [(⟨(t : Int), 1, C[t].Second, C[t].W2⟩ : ModelPart)] else []))) := by
 have hm : t < (C.map pr).length := by simpa using ht
 have em : at0 (C.map pr) (t : Int) = pr C[t] := by rw [at0_nat hm]; simp
 have step : ∀ (k : Nat) (rest : Nat) (a : List ModelPart) (hk : k = 0 ∨ k = 1) (ha : a.length ≤ 1000005), model_Parts_l3 t C (C.map pr) x (rest + 1) k a = model_Parts_l3 t C (C.map pr) x rest (k + 1) (a ++ (if 0 ≤ at0 x (k : Int) then [(⟨(t : Int), (k : Int), at0 (pr C[t]) (k : Int), at0 [C[t].W1, C[t].W2] (k : Int)⟩ : ModelPart)] else [])) := fun k rest a hk ha => by
  rw [model_Parts_l3]
  have i2 : inb (k : Int) 2 = true := by rcases hk with rfl | rfl <;> rfl
  refine cb_t i2 ?_
  by_cases h : 0 ≤ at0 x (k : Int)
  ·refine bif_t h (cb_t (inb_nat hm) (cb_t i2 (cb_t (inb_nat ht) (cb_t (inb_nat ht) (cb_t i2 (cb_t (lim_t (by simp; omega)) ?_))))))
   rw [if_pos h, em, at0_nat ht]
  ·refine bif_f h ?_
   rw [if_neg h, List.append_nil]
 rw [step 0 1 acc (.inl rfl) (by omega), step 1 0 _ (.inr rfl) (by split <;> simp <;> omega), model_Parts_l3, List.append_assoc]
 rfl
theorem parts_l2 (E cap : Int) (C : List GateChoice) (hC : C.length ≤ 1000) : ∀ (cs : List GateChoice) (t : Nat) (f : Int → Nat) (acc : List ModelPart), C.drop t = cs → t ≤ C.length → acc.length ≤ 2 * t →
  model_Parts_l2 C (C.map pr) (slotsF E cap f (cs.map pr)) t acc = some (acc ++ partsG E cap t f cs)
 | [], t, f, acc, _, _, _ => by simp [slotsF, model_Parts_l2, partsG]
 | c :: cs, t, f, acc, hd, ht, ha => by
  have hlt : t < C.length := by
   rcases Nat.lt_or_ge t C.length with h | h
   ·exact h
   ·rw [List.drop_eq_nil_iff.2 h] at hd; cases hd
  rw [List.drop_eq_getElem_cons hlt] at hd
  injection hd with hc hd
  rw [List.map_cons, slotsF, model_Parts_l2]
  refine cb_t rfl ?_
  have e2 : Int.toNat 2 = 2 := rfl
  rw [e2, parts_l3 C t hlt _ _ (by omega)]
  simp only [Option.bind_some]
  have he : ((if 0 ≤ at0 (rowS E cap f (pr c)) 0 then [(⟨(t : Int), 0, C[t].First, C[t].W1⟩ : ModelPart)] else []) ++ (if 0 ≤ at0 (rowS E cap f (pr c)) 1 then [(⟨(t : Int), 1, C[t].Second, C[t].W2⟩ : ModelPart)] else [])) = em E cap t f c := by
   rw [hc]; rfl
  rw [he]
  have hl := em_len E cap t f c
  have := parts_l2 E cap C hC cs (t + 1) (bump (bump f c.First) c.Second) (acc ++ em E cap t f c) hd (by omega) (by simp; omega)
  have e3 : bump (bump f (at0 (pr c) 0)) (at0 (pr c) 1) = bump (bump f c.First) c.Second := rfl
  rw [e3, this, partsG, List.append_assoc]
/-- A layer, and tokens that fit. -/
def LT (l : ApiLayer) (d : Nat) (ts : List (List Int)) : Prop := layB l (d : Int) = true ∧ rect ts d ∧ ts.length ≤ 16 ∧ d ≤ 8
theorem lay_d {l : ApiLayer} {d : Nat} (h : layB l (d : Int) = true) : (1 ≤ l.Experts.length ∧ l.Experts.length ≤ 8) ∧ (l.Gate.length = l.Experts.length ∧ rect l.Gate d) ∧ (1 ≤ l.Capacity ∧ l.Capacity ≤ 32) ∧ ∀ x ∈ l.Experts, expB x (d : Int) = true := by
 simp only [layB, Bool.and_eq_true, decide_eq_true_eq, List.all_eq_true] at h
 have h1 := matB_rect h.2.1.1.1
 exact ⟨by omega, ⟨by omega, h1.2⟩, ⟨h.2.1.1.2, h.2.1.2⟩, h.2.2⟩
theorem lt_ch {l : ApiLayer} {d : Nat} {ts : List (List Int)} (h : LT l d ts) : ∀ v ∈ ts, gate_Choose l.Gate v = some (chOf l.Gate v, true) ∧ switchboardref13_Choose l.Gate v = some (chOf l.Gate v, true) := fun v hv => by
 obtain ⟨h1, h2, h3, h4⟩ := lay_d h.1
 have hvl : v.length = d := h.2.1 v hv
 have := chOf_eq (g := l.Gate) (v := v) (by rw [hvl]; exact h2.2) (by omega) (by omega) (by have := h.2.2.2; omega)
 exact ⟨this.1, this.2.1⟩
theorem parts_eq {l : ApiLayer} {d : Nat} {ts : List (List Int)} (h : LT l d ts) : model_Parts l ts = some (parts l ts) := by
 obtain ⟨h1, h2, h3, h4⟩ := lay_d h.1
 have h5 := h.2.2.1
 unfold model_Parts
 refine bd_s (parts_l1 l ts 0 [] [] (fun v hv => (lt_ch h v hv).1) (by simp; omega) (by simp; omega)) ?_
 simp only [List.nil_append]
 refine bd_s (assign_eq (by omega) (by omega) (by simp; omega)) ?_
 have e : ts.map (fun v => pr (chOf l.Gate v)) = (ts.map (chOf l.Gate)).map pr := by rw [List.map_map]; rfl
 rw [e]
 have := parts_l2 (l.Experts.length : Int) l.Capacity (ts.map (chOf l.Gate)) (by simp; omega) (ts.map (chOf l.Gate)) 0 f0 [] rfl (by omega) (by simp)
 exact bd_s this rfl
/-! ### the reference's -/
theorem rparts_l1 (l : ApiLayer) : ∀ (ts : List (List Int)) (i : Nat) (b : List (List Int)), (∀ v ∈ ts, switchboardref13_Choose l.Gate v = some (chOf l.Gate v, true)) → b.length + ts.length ≤ 1000000 →
  switchboardref15_Parts_l1 l ts i b = some (b ++ ts.map (fun v => pr (chOf l.Gate v)))
 | [], i, b, _, _ => by simp [switchboardref15_Parts_l1]
 | v :: ts, i, b, h, h2 => by
  rw [switchboardref15_Parts_l1, h v (by simp)]
  simp only [Option.bind_some]
  refine cb_t (lim_t (by simp at h2 ⊢; omega)) ?_
  rw [rparts_l1 l ts (i + 1) _ (fun x hx => h x (by simp [hx])) (by simp at h2 ⊢; omega)]
  simp [pr]
theorem rparts_l2 (l : ApiLayer) (ts : List (List Int)) (hts : ts.length ≤ 1000) (hc : ∀ v ∈ ts, switchboardref13_Choose l.Gate v = some (chOf l.Gate v, true)) : ∀ (fuel t : Nat) (acc : List ModelPart), t ≤ ts.length → ts.length - t < fuel → acc.length ≤ 2 * t →
  ∃ z, switchboardref15_Parts_l2 l ts ((ts.map (chOf l.Gate)).map pr) fuel acc (t : Int) = some (acc ++ partsG (l.Experts.length : Int) l.Capacity t (uptoF f0 (((ts.map (chOf l.Gate)).map pr).take t)) ((ts.map (chOf l.Gate)).drop t), z)
 | 0, t, acc, _, h, _ => by omega
 | fuel + 1, t, acc, ht, h, ha => by
  rw [switchboardref15_Parts_l2]
  by_cases he : t = ts.length
  ·refine ⟨(t : Int), bif_f (by omega) ?_⟩
   rw [List.drop_eq_nil_iff.2 (by simp [he]), partsG, List.append_nil]
  ·have hlt : t < ts.length := by omega
   have hlm : t < (ts.map (chOf l.Gate)).length := by simpa using hlt
   have hlp : t < ((ts.map (chOf l.Gate)).map pr).length := by simpa using hlt
   have hg : ((ts.map (chOf l.Gate)).map pr)[t] = pr (chOf l.Gate ts[t]) := by simp
   obtain ⟨s0, s1⟩ := slot_eq hlp (by simp; omega) (l.Experts.length : Int) l.Capacity
   rw [hg] at s0 s1
   have a0 : at0 (pr (chOf l.Gate ts[t])) 0 = (chOf l.Gate ts[t]).First := rfl
   have a1 : at0 (pr (chOf l.Gate ts[t])) 1 = (chOf l.Gate ts[t]).Second := rfl
   rw [a0] at s0 s1
   rw [a1] at s1
   generalize hF : uptoF f0 (((ts.map (chOf l.Gate)).map pr).take t) = F at s0 s1 ⊢
   have hF' : uptoF f0 (((ts.map (chOf l.Gate)).map pr).take (t + 1)) = bump (bump F (chOf l.Gate ts[t]).First) (chOf l.Gate ts[t]).Second := by
    rw [List.take_succ_eq_append_getElem hlp, uptoF, List.foldl_append]
    simp only [List.foldl_cons, List.foldl_nil]
    have : List.foldl (fun f w => bump (bump f (at0 w 0)) (at0 w 1)) f0 (((ts.map (chOf l.Gate)).map pr).take t) = F := hF
    rw [this, hg]; rfl
   have hd : (ts.map (chOf l.Gate)).drop t = chOf l.Gate ts[t] :: (ts.map (chOf l.Gate)).drop (t + 1) := by
    rw [List.drop_eq_getElem_cons hlm]; simp
   rw [hd, partsG]
   have hrec := fun (acc' : List ModelPart) (h' : acc'.length ≤ 2 * (t + 1)) => rparts_l2 l ts hts hc fuel (t + 1) acc' (by omega) (by omega) h'
   rw [hF'] at hrec
   unfold em
   by_cases c0 : 0 ≤ sl (l.Experts.length : Int) l.Capacity (F (chOf l.Gate ts[t]).First) (chOf l.Gate ts[t]).First <;>
   by_cases c1 : 0 ≤ sl (l.Experts.length : Int) l.Capacity (bump F (chOf l.Gate ts[t]).First (chOf l.Gate ts[t]).Second) (chOf l.Gate ts[t]).Second
   ·obtain ⟨z, hz⟩ := hrec ((acc ++ [⟨(t : Int), 0, (chOf l.Gate ts[t]).First, (chOf l.Gate ts[t]).W1⟩]) ++ [⟨(t : Int), 1, (chOf l.Gate ts[t]).Second, (chOf l.Gate ts[t]).W2⟩]) (by simp; omega)
    refine ⟨z, bif_t (by omega) (cb_t (inb_nat hlt) (bd_s (by rw [at0_nat hlt]; exact hc _ (List.getElem_mem hlt)) (bd_s s0 (bif_t c0 (cb_t (lim_t (by simp; omega)) (bd_s s1 (bif_t c1 (cb_t (lim_t (by simp; omega)) ?_)))))))) ⟩
    rw [i64s t (by omega), hz, if_pos c0, if_pos c1]; simp
   ·obtain ⟨z, hz⟩ := hrec (acc ++ [⟨(t : Int), 0, (chOf l.Gate ts[t]).First, (chOf l.Gate ts[t]).W1⟩]) (by simp; omega)
    refine ⟨z, bif_t (by omega) (cb_t (inb_nat hlt) (bd_s (by rw [at0_nat hlt]; exact hc _ (List.getElem_mem hlt)) (bd_s s0 (bif_t c0 (cb_t (lim_t (by simp; omega)) (bd_s s1 (bif_f c1 ?_))))))) ⟩
    rw [i64s t (by omega), hz, if_pos c0, if_neg c1]; simp
   ·obtain ⟨z, hz⟩ := hrec (acc ++ [⟨(t : Int), 1, (chOf l.Gate ts[t]).Second, (chOf l.Gate ts[t]).W2⟩]) (by simp; omega)
    refine ⟨z, bif_t (by omega) (cb_t (inb_nat hlt) (bd_s (by rw [at0_nat hlt]; exact hc _ (List.getElem_mem hlt)) (bd_s s0 (bif_f c0 (bd_s s1 (bif_t c1 (cb_t (lim_t (by simp; omega)) ?_)))))))⟩
    rw [i64s t (by omega), hz, if_neg c0, if_pos c1]; simp
   ·obtain ⟨z, hz⟩ := hrec acc (by omega)
    refine ⟨z, bif_t (by omega) (cb_t (inb_nat hlt) (bd_s (by rw [at0_nat hlt]; exact hc _ (List.getElem_mem hlt)) (bd_s s0 (bif_f c0 (bd_s s1 (bif_f c1 ?_))))))⟩
    rw [i64s t (by omega), hz, if_neg c0, if_neg c1]; simp
theorem rparts_eq {l : ApiLayer} {d : Nat} {ts : List (List Int)} (h : LT l d ts) : switchboardref15_Parts l ts = some (parts l ts) := by
 have h5 := h.2.2.1
 unfold switchboardref15_Parts
 refine bd_s (rparts_l1 l ts 0 [] (fun v hv => (lt_ch h v hv).2) (by simp; omega)) ?_
 have e : [] ++ ts.map (fun v => pr (chOf l.Gate v)) = (ts.map (chOf l.Gate)).map pr := by rw [List.map_map, List.nil_append]; rfl
 rw [e]
 obtain ⟨z, hz⟩ := rparts_l2 l ts (by omega) (fun v hv => (lt_ch h v hv).2) FUEL 0 [] (by omega) (by unfold FUEL; omega) (by simp)
 exact bd_s hz rfl
end Go.Sw.FL

/- The plain law: a layer's answers, added; the reference's Forward; Same. -/
import Derived.Test.YtahaedoeckgidaaGreatPlG
set_option linter.unusedVariables false
set_option linter.unusedSimpArgs false
namespace Go.Sw.FL
def combF : List ModelPart → List (List Int) → List (List Int) → List (List Int)
 | p :: ps, a :: aa, ts => combF ps aa (ts.set p.Token.toNat (vadd (at0 ts p.Token) (vscale a p.Weight)))
 | _, _, ts => ts
theorem vadd_len {a b : List Int} {d : Nat} (ha : a.length = d) (hb : b.length = d) : (vadd a b).length = d := by simp [vadd, ha, hb]
theorem vscale_len (a : List Int) (k : Int) : (vscale a k).length = a.length := by simp [vscale]
theorem vadd_ok (a b : List Int) : ∀ n ∈ vadd a b, ok n := fun n hn => by
 unfold vadd at hn
 obtain ⟨i, hi, rfl⟩ := List.getElem_of_mem hn
 rw [List.getElem_zipWith]; exact fadd_ok _ _
theorem combF_len : ∀ (ps : List ModelPart) (aa ts : List (List Int)), (combF ps aa ts).length = ts.length
 | [], aa, ts => by cases aa <;> rfl
 | p :: ps, [], ts => rfl
 | p :: ps, a :: aa, ts => by rw [combF, combF_len]; simp
theorem at0_mem {α : Type} [Inhabited α] {xs : List α} {i : Int} (h0 : 0 ≤ i) (h1 : i < xs.length) : at0 xs i ∈ xs := by
 obtain ⟨k, rfl⟩ := Int.eq_ofNat_of_zero_le h0
 rw [at0_nat (by omega)]; exact List.getElem_mem _
theorem combF_rect {d : Nat} : ∀ (ps : List ModelPart) (aa ts : List (List Int)), rect aa d → rect ts d → (∀ p ∈ ps, 0 ≤ p.Token ∧ p.Token < ts.length) → rect (combF ps aa ts) d
 | [], aa, ts, _, h, _ => by cases aa <;> exact h
 | p :: ps, [], ts, _, h, _ => h
 | p :: ps, a :: aa, ts, ha, h, hp => by
  rw [combF]
  have hpp := hp p (by simp)
  refine combF_rect ps aa _ (fun x hx => ha x (by simp [hx])) (fun x hx => ?_) (fun q hq => by have := hp q (by simp [hq]); simpa using this)
  rcases List.mem_or_eq_of_mem_set hx with hx | rfl
  ·exact h x hx
  ·exact vadd_len (h _ (at0_mem hpp.1 hpp.2)) (by rw [vscale_len]; exact ha a (by simp))
theorem combF_ok : ∀ (ps : List ModelPart) (aa ts : List (List Int)), (∀ l ∈ ts, ∀ n ∈ l, ok n) → ∀ l ∈ combF ps aa ts, ∀ n ∈ l, ok n
 | [], aa, ts, h => by cases aa <;> exact h
 | p :: ps, [], ts, h => h
 | p :: ps, a :: aa, ts, h => by
  rw [combF]
  refine combF_ok ps aa _ fun x hx => ?_
  rcases List.mem_or_eq_of_mem_set hx with hx | rfl
  ·exact h x hx
  ·exact vadd_ok _ _
theorem comb_l1 {d : Nat} (hd : d ≤ 8) (A : List (List Int)) (hA : rect A d) : ∀ (ps : List ModelPart) (i : Nat) (ts : List (List Int)), i + ps.length = A.length → rect ts d → (∀ p ∈ ps, 0 ≤ p.Token ∧ p.Token < ts.length) → model_Combine_ro2_l1 A ps i ts = some (combF ps (A.drop i) ts)
 | [], i, ts, _, _, _ => by rw [model_Combine_ro2_l1]; cases A.drop i <;> rfl
 | p :: ps, i, ts, hi, h, hp => by
  have hiA : i < A.length := by simp at hi; omega
  obtain ⟨h0, h1⟩ := hp p (by simp)
  have hin : inb p.Token ts.length = true := by simp [inb]; omega
  have hal : A[i].length = d := hA _ (List.getElem_mem hiA)
  have htl : (at0 ts p.Token).length = d := h _ (at0_mem h0 h1)
  rw [model_Combine_ro2_l1]
  refine cb_f (by simp; omega) (cb_t hin (cb_t (inb_nat hiA) ?_))
  rw [at0_nat hiA, vscale_eq _ _ (by omega)]
  simp only [Option.bind_some]
  rw [vadd_eq (by rw [vscale_len]; omega) (by omega)]
  simp only [Option.bind_some]
  refine cb_t rfl (cb_t hin ?_)
  have hs := comb_l1 hd A hA ps (i + 1) (ts.set p.Token.toNat (vadd (at0 ts p.Token) (vscale A[i] p.Weight))) (by simp at hi; omega) (fun x hx => by
   rcases List.mem_or_eq_of_mem_set hx with hx | rfl
   ·exact h x hx
   ·exact vadd_len htl (by rw [vscale_len]; exact hal)) (fun q hq => by have := hp q (by simp [hq]); simpa using this)
  rw [hs, List.drop_eq_getElem_cons hiA, combF]
theorem comb_eq {d : Nat} (hd : d ≤ 8) {A : List (List Int)} (hA : rect A d) {ps : List ModelPart} {ts : List (List Int)} (hl : ps.length = A.length) (ht : rect ts d) (hts : ts.length ≤ 16) (hp : ∀ p ∈ ps, 0 ≤ p.Token ∧ p.Token < ts.length) : model_Combine_ro2 ts ps A = some (combF ps A ts) := by
 unfold model_Combine_ro2 slices_Clone__int
 rw [clone_eq (by omega)]
 simp only [Option.bind_some]
 rw [comb_l1 hd A hA ps 0 ts (by omega) ht hp]; rfl
/-- What a part is answered. -/
def ans (l : ApiLayer) (ts : List (List Int)) (p : ModelPart) : List Int := run (at0 l.Experts p.Expert) (at0 ts p.Token)
def fwd1 (l : ApiLayer) (ts : List (List Int)) : List (List Int) := combF (parts l ts) ((parts l ts).map (ans l ts)) ts
def fwd (ls : List ApiLayer) (ts : List (List Int)) : List (List Int) := ls.foldl (fun ts l => fwd1 l ts) ts
def tokF (w : ModelPart → List Int) (t : Nat) (v : List Int) (ps : List ModelPart) : List Int := ps.foldl (fun v p => if p.Token = (t : Int) then vadd v (vscale (w p) p.Weight) else v) v
theorem combF_at (w : ModelPart → List Int) (t : Nat) : ∀ (ps : List ModelPart) (ts : List (List Int)), t < ts.length → (∀ p ∈ ps, 0 ≤ p.Token ∧ p.Token < ts.length) → at0 (combF ps (ps.map w) ts) (t : Int) = tokF w t (at0 ts (t : Int)) ps
 | [], ts, _, _ => rfl
 | p :: ps, ts, ht, hp => by
  obtain ⟨h0, h1⟩ := hp p (by simp)
  rw [List.map_cons, combF, combF_at w t ps _ (by simpa using ht) (fun q hq => by have := hp q (by simp [hq]); simpa using this), tokF, tokF, List.foldl_cons]
  congr 1
  obtain ⟨k, hk⟩ := Int.eq_ofNat_of_zero_le h0
  rw [hk]
  by_cases h : (k : Int) = (t : Int)
  ·have : k = t := by omega
   subst this
   rw [if_pos rfl, at0_nat (by simpa using ht)]
   simp
  ·have : k ≠ t := by omega
   rw [if_neg h, at0_nat (by simpa using ht), at0_nat ht]
   simp [List.getElem_set, this]
theorem ans_len {l : ApiLayer} {d : Nat} {ts : List (List Int)} (h : LT l d ts) {p : ModelPart} (hp : pOk ts.length (l.Experts.length : Int) p) : (ans l ts p).length = d ∧ expB (at0 l.Experts p.Expert) (((at0 ts p.Token).length : Nat) : Int) = true := by
 obtain ⟨_, _, _, h4⟩ := lay_d h.1
 have hv : (at0 ts p.Token).length = d := h.2.1 _ (at0_mem hp.1.1 hp.1.2)
 have he := h4 _ (at0_mem (xs := l.Experts) hp.2.2.1 hp.2.2.2)
 rw [← hv] at he
 exact ⟨by rw [ans, run_len he, hv], he⟩
theorem fwd1_len (l : ApiLayer) (ts : List (List Int)) : (fwd1 l ts).length = ts.length := combF_len _ _ _
theorem ans_rect {l : ApiLayer} {d : Nat} {ts : List (List Int)} (h : LT l d ts) : rect ((parts l ts).map (ans l ts)) d := fun x hx => by
 obtain ⟨p, hp, rfl⟩ := List.mem_map.1 hx
 exact (ans_len h (parts_mem hp)).1
theorem fwd1_rect {l : ApiLayer} {d : Nat} {ts : List (List Int)} (h : LT l d ts) : rect (fwd1 l ts) d := combF_rect _ _ _ (ans_rect h) h.2.1 fun p hp => (parts_mem hp).1
theorem fwd1_ok {l : ApiLayer} {ts : List (List Int)} (h : ∀ v ∈ ts, ∀ n ∈ v, ok n) : ∀ v ∈ fwd1 l ts, ∀ n ∈ v, ok n := combF_ok _ _ _ h
theorem fwd1_comb {l : ApiLayer} {d : Nat} {ts : List (List Int)} (h : LT l d ts) : model_Combine_ro2 ts (parts l ts) ((parts l ts).map (ans l ts)) = some (fwd1 l ts) :=
 comb_eq h.2.2.2 (ans_rect h) (by simp) h.2.1 h.2.2.1 fun p hp => (parts_mem hp).1
/-! ### the reference's -/
theorem rfwd_l3 {l : ApiLayer} {d : Nat} {ts : List (List Int)} (h : LT l d ts) (t : Nat) (ht : t < ts.length) : ∀ (ps : List ModelPart) (i : Nat) (v : List Int), (∀ p ∈ ps, pOk ts.length (l.Experts.length : Int) p) → v.length = d → switchboardref15_Forward_l3 ts l (t : Int) ps i v = some (tokF (ans l ts) t v ps)
 | [], i, v, _, _ => rfl
 | p :: ps, i, v, hp, hv => by
  have hpp := hp p (by simp)
  rw [switchboardref15_Forward_l3, tokF, List.foldl_cons]
  by_cases hb : p.Token = (t : Int)
  ·obtain ⟨e1, e2⟩ := ans_len h hpp
   rw [hb] at e2
   have e3 : ans l ts p = run (at0 l.Experts p.Expert) (at0 ts (t : Int)) := by rw [ans, hb]
   refine cb_t (by simpa using hb) (cb_t (by simp [inb]; exact hpp.2.2) (cb_t (inb_nat ht) (bd_s (rrun_eq e2) ?_)))
   rw [rvscale_eq _ _ (by rw [← e3, e1]; have := h.2.2.2; omega)]
   simp only [Option.bind_some]
   rw [rvadd_eq (by rw [vscale_len, ← e3, e1, hv]) (by have := h.2.2.2; omega)]
   simp only [Option.bind_some]
   rw [rfwd_l3 h t ht ps (i + 1) _ (fun q hq => hp q (by simp [hq])) (vadd_len hv (by rw [vscale_len, ← e3, e1])), if_pos hb, e3]; rfl
  ·refine cb_f (by simpa using hb) ?_
   rw [rfwd_l3 h t ht ps (i + 1) v (fun q hq => hp q (by simp [hq])) hv, if_neg hb]; rfl
theorem rfwd_l2 {l : ApiLayer} {d : Nat} {ts : List (List Int)} (h : LT l d ts) : ∀ (fuel t : Nat) (acc : List (List Int)), t ≤ ts.length → ts.length - t < fuel → acc.length ≤ t → ∃ z, switchboardref15_Forward_l2 ts l (parts l ts) fuel acc (t : Int) = some (acc ++ (fwd1 l ts).drop t, z)
 | 0, t, acc, _, h, _ => by omega
 | fuel + 1, t, acc, ht, hf, ha => by
  have h16 := h.2.2.1
  rw [switchboardref15_Forward_l2]
  by_cases he : t = ts.length
  ·refine ⟨(t : Int), bif_f (by omega) ?_⟩
   rw [List.drop_eq_nil_iff.2 (by rw [fwd1_len]; omega), List.append_nil]
  ·have hlt : t < ts.length := by omega
   have hlf : t < (fwd1 l ts).length := by rw [fwd1_len]; exact hlt
   have hpm : ∀ p ∈ parts l ts, pOk ts.length (l.Experts.length : Int) p := fun p hp => parts_mem hp
   obtain ⟨z, hz⟩ := rfwd_l2 h fuel (t + 1) (acc ++ [(fwd1 l ts)[t]]) (by omega) (by omega) (by simp; omega)
   refine ⟨z, bif_t (by omega) (cb_t (inb_nat hlt) (bd_s (rfwd_l3 h t hlt _ 0 _ hpm (h.2.1 _ (at0_mem (by omega) (by omega)))) (cb_t (lim_t (by simp; omega)) ?_)))⟩
   rw [← combF_at (ans l ts) t (parts l ts) ts hlt (fun p hp => (parts_mem hp).1)]
   have e : at0 (combF (parts l ts) ((parts l ts).map (ans l ts)) ts) (t : Int) = (fwd1 l ts)[t] := at0_nat hlf
   rw [e, i64s t (by omega), hz, List.drop_eq_getElem_cons hlf]; simp
theorem rfwd_l1 {d : Nat} (hd : d ≤ 8) : ∀ (ls : List ApiLayer) (i : Nat) (ts : List (List Int)), (∀ l ∈ ls, layB l (d : Int) = true) → rect ts d → ts.length ≤ 16 → switchboardref15_Forward_l1 ls i ts = some (fwd ls ts)
 | [], i, ts, _, _, _ => rfl
 | l :: ls, i, ts, hl, hr, ht => by
  have h : LT l d ts := ⟨hl l (by simp), hr, ht, hd⟩
  obtain ⟨z, hz⟩ := rfwd_l2 h FUEL 0 [] (by omega) (by unfold FUEL; omega) (by simp)
  rw [switchboardref15_Forward_l1]
  refine bd_s (rparts_eq h) (bd_s hz ?_)
  simp only [List.nil_append, List.drop_zero]
  rw [rfwd_l1 hd ls (i + 1) _ (fun x hx => hl x (by simp [hx])) (fwd1_rect h) (by rw [fwd1_len]; exact ht)]
  rfl
theorem rfwd_eq {d : Nat} (hd : d ≤ 8) {m : ApiModel} {ts : List (List Int)} (hl : ∀ l ∈ m.Layers, layB l (d : Int) = true) (hr : rect ts d) (ht : ts.length ≤ 16) : switchboardref15_Forward m ts = some (fwd m.Layers ts) := by
 unfold switchboardref15_Forward
 rw [rfwd_l1 hd m.Layers 0 ts hl hr ht]; rfl
theorem same2_l1 (a : List Int) (hl : a.length ≤ 100000) : ∀ (fuel i : Nat), i ≤ a.length → a.length - i < fuel → ∃ z, switchboardref02_Same_l1 a a fuel (i : Int) = some (.out z)
 | 0, i, _, h => by omega
 | fuel + 1, i, hi, h => by
  rw [switchboardref02_Same_l1]
  by_cases he : i = a.length
  ·exact ⟨(i : Int), bif_f (by omega) rfl⟩
  ·have hlt : i < a.length := by omega
   obtain ⟨z, hz⟩ := same2_l1 a hl fuel (i + 1) (by omega) (by omega)
   exact ⟨z, bif_t (by omega) (cb_t (inb_nat hlt) (cb_t (inb_nat hlt) (cb_f (by simp) (by rw [i64s i (by omega)]; exact hz))))⟩
theorem same2 {a : List Int} (hl : a.length ≤ 100000) : switchboardref02_Same a a = some true := by
 obtain ⟨z, hz⟩ := same2_l1 a hl FUEL 0 (by omega) (by unfold FUEL; omega)
 unfold switchboardref02_Same
 exact cb_f (by simp) (bd_s hz rfl)
theorem same_l1 (a : List (List Int)) (hl : a.length ≤ 100000) (hr : ∀ l ∈ a, l.length ≤ 100000) : ∀ (fuel i : Nat), i ≤ a.length → a.length - i < fuel → ∃ z, switchboardref15_Same_l1 a a fuel (i : Int) = some (.out z)
 | 0, i, _, h => by omega
 | fuel + 1, i, hi, h => by
  rw [switchboardref15_Same_l1]
  by_cases he : i = a.length
  ·exact ⟨(i : Int), bif_f (by omega) rfl⟩
  ·have hlt : i < a.length := by omega
   obtain ⟨z, hz⟩ := same_l1 a hl hr fuel (i + 1) (by omega) (by omega)
   refine ⟨z, bif_t (by omega) (cb_t (inb_nat hlt) (cb_t (inb_nat hlt) (bd_s (same2 (hr _ (at0_mem (by omega) (by omega)))) (cb_f rfl (by rw [i64s i (by omega)]; exact hz)))))⟩
theorem same_eq {a : List (List Int)} (hl : a.length ≤ 100000) (hr : ∀ l ∈ a, l.length ≤ 100000) : switchboardref15_Same a a = some true := by
 obtain ⟨z, hz⟩ := same_l1 a hl hr FUEL 0 (by omega) (by unfold FUEL; omega)
 unfold switchboardref15_Same
 exact cb_f (by simp) (bd_s hz rfl)
end Go.Sw.FL

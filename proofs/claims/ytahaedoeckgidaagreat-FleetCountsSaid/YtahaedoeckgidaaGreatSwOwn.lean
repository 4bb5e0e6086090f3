/- Calls that are handed a row of the caller's own. -/
import Derived.Test.YtahaedoeckgidaaGreatSwBig
set_option linter.unusedVariables false
set_option linter.unusedSimpArgs false
namespace Go.Sw
section
variable {P : Program} {n : Nat} {N R : Cont} {r : Regs} {w : World} {ops : Array Oper} {rest : List Oper} {d : Nat} {dst : Option Tmp} {gd : Option (Nat × Bool)} {ty : TypeId} {pos : String} {after : Array Edge}
variable {w0 : World} {H0 : IHeap} {M0 : List Nat} {H : IHeap} {O : OHeap}
/-- What a call answers that is handed blocks of the caller's own (M). -/
def OkM (P : Program) (f : FuncId) (args : Array Value) (w : World) (H : IHeap) (M : List Nat) (Φ : IHeap → OHeap → Value → Prop) : Prop :=
 Calls P f args w fun e w' => ∃ v, e = .returned v ∧ ∃ H' O', Φ H' O' v ∧ St w H M H' O' w'
/-- The callee's start: one thing of the caller's own. -/
theorem St.enter (h : St w0 H0 M0 H O w) (k : Nat) {p : Own} (hk : O k = some p) : St w H p.ids H (ol [(0, p)]) w := by
 refine ⟨h.sub, Le.refl _, fun b o e => .inl e, fun j q hj => ?_, fun j q g hj hg => ?_, fun j i q s g hj hi _ _ => ?_, fun _ _ _ => rfl, Nat.le_refl _, rfl, rfl, rfl⟩
 ·simp only [ol, List.lookup] at hj
  split at hj
  ·simp only [Option.some.injEq] at hj; subst hj; exact h.ok k p hk
  ·cases hj
 ·simp only [ol, List.lookup] at hj
  split at hj
  ·simp only [Option.some.injEq] at hj; subst hj; exact ⟨(h.own k p g hk hg).1, .inl hg⟩
  ·cases hj
 ·simp only [ol, List.lookup] at hj hi
  split at hj
  ·next e =>
   split at hi
   ·next e2 => simp at e e2; omega
   ·cases hi
  ·cases hj
/-- The call came back. -/
theorem St.callM {w' : World} {H' : IHeap} {O' : OHeap} (h : St w0 H0 M0 H O w) (k : Nat) {p : Own} (hk : O k = some p) (hc : St w H p.ids H' O' w') : St w0 H0 M0 H' (oup O k (O' 0)) w' := by
 have hfr : ∀ b, b < w.heap.size → b ∉ p.ids → w'.heap[b]? = w.heap[b]? := fun b hb hn => hc.fr b hb hn
 have hne : ∀ j q g, k ≠ j → O j = some q → g ∈ q.ids → g ∉ p.ids := fun j q g hkj hj hg hp => hkj (h.nd k j p q g hk hj hp hg)
 refine ⟨hc.sub, h.le.trans hc.le, fun b o e => ?_, fun j q hj => ?_, fun j q g hj hg => ?_, fun j i q s g hj hi hq hs => ?_, fun b hb hn => ?_, Nat.le_trans h.sz hc.sz, hc.os.trans h.os, hc.tape.trans h.tape, hc.output.trans h.output⟩
 ·rcases hc.new_ b o e with h1 | h1 | h1
  ·exact h.new_ b o h1
  ·exact .inr (.inl (Nat.le_trans h.sz h1))
  ·rcases (h.own k p b hk h1).2 with hm | hm
   ·exact .inr (.inr hm)
   ·exact .inr (.inl hm)
 ·by_cases hkj : k = j
  ·subst hkj; rw [oup_same] at hj; exact hc.ok 0 q hj
  ·rw [oup_ne O _ hkj] at hj
   exact Own.ok_same (h.ok j q hj) fun g hg => hfr g (Own.lt (h.ok j q hj) hg) (hne j q g hkj hj hg)
 ·by_cases hkj : k = j
  ·subst hkj; rw [oup_same] at hj
   refine ⟨(hc.own 0 q g hj hg).1, ?_⟩
   rcases (hc.own 0 q g hj hg).2 with h1 | h1
   ·exact (h.own k p g hk h1).2
   ·exact .inr (Nat.le_trans h.sz h1)
  ·rw [oup_ne O _ hkj] at hj
   refine ⟨?_, (h.own j q g hj hg).2⟩
   cases hh : H' g with
   | none => rfl
   | some o =>
    have hlt := Own.lt (h.ok j q hj) hg
    rcases hc.new_ g o hh with h1 | h1 | h1
    ·rw [(h.own j q g hj hg).1] at h1; cases h1
    ·omega
    ·exact absurd h1 (hne j q g hkj hj hg)
 ·have key : ∀ j' q' s', O' 0 = some s' → O j' = some q' → k ≠ j' → g ∈ s'.ids → g ∈ q'.ids → False := fun j' q' s' h1 h2 h3 h4 h5 => by
   rcases (hc.own 0 s' g h1 h4).2 with hm | hm
   ·exact hne j' q' g h3 h2 h5 hm
   ·have := Own.lt (h.ok j' q' h2) h5
    omega
  by_cases hkj : k = j
  ·subst hkj
   by_cases hki : k = i
   ·exact hki
   ·rw [oup_same] at hj; rw [oup_ne O _ hki] at hi; exact (key i s q hj hi hki hq hs).elim
  ·by_cases hki : k = i
   ·subst hki; rw [oup_same] at hi; rw [oup_ne O _ hkj] at hj; exact (key j q s hi hj hkj hs hq).elim
   ·rw [oup_ne O _ hkj] at hj; rw [oup_ne O _ hki] at hi; exact h.nd j i q s g hj hi hq hs
 ·rw [hfr b (Nat.lt_of_lt_of_le hb h.sz) (fun hp => ?_), h.fr b hb hn]
  rcases (h.own k p b hk hp).2 with hm | hm
  ·exact hn hm
  ·omega
theorem o_callM {f : FuncId} {as : Array Operand} {ts : Array TypeId} {args : List Value} {Φ : IHeap → OHeap → Value → Prop} (k : Nat) {p : Own} (hO : St w0 H0 M0 H O w) (hk' : O k = some p) (hg : isGo P f = true) (hc : OkM P f args.toArray w H p.ids Φ) (ha : as.toList.map (rv r) = args)
  (hk : ∀ v H' O' w', Le H H' → Φ H' O' v → St w0 H0 M0 H' (oup O k (O' 0)) w' → WL P n ops rest N (upd r d v) w') (hd : Nat.blt d n = true := by rfl) :
  WL P n ops (⟨some d, .call ⟨.value (.func f), as, ts⟩, ty, pos, after, none⟩ :: rest) N r w := by
 have hmap : as.map (rv r) = args.toArray := by rw [← ha]; apply Array.ext'; simp
 refine WL.op (fun v w' => ∃ H' O', Le H H' ∧ Φ H' O' v ∧ St w0 H0 M0 H' (oup O k (O' 0)) w') ?_ (fun v w' ⟨H', O', h1, h2, h3⟩ => hk v H' O' w' h1 h2 h3) hd
 unfold Does
 simp only [execOp, resolve, Deferred.ofValue, rv, hmap, Sem.run_bind, Sem.run_pure, Result.andThen_ok, invoke, run_callFunc hg]
 simp only [List.append_toArray, List.nil_append, Array.append_empty, Array.empty_append]
 refine Calls.mono hc fun e w' ⟨v, he, H', O', hΦ, hst⟩ => ⟨v, he, H', O', hst.le, hΦ, hO.callM k hk' hst⟩
theorem okM_of_W {m : Nat} {f : FuncId} {fn : Func} {c : Code} {args : List Value} {M : List Nat} {Φ : IHeap → OHeap → Value → Prop} (hf : P.funcs[f]? = some fn) (hb : fn.body = some c) (hn : fn.ntmps = m) {rs : List ResultVar} (hp : fn.results = rs.toArray) (hs : Nat.ble args.length m = true)
  (h : W P m c (fun r w' => ∃ us, ResV P w' r rs us ∧ ∃ H' O', Φ H' O' (tupled us) ∧ St w H M H' O' w') [] (fun r w' => ∃ us, ResV P w' r rs us ∧ ∃ H' O', Φ H' O' (tupled us) ∧ St w H M H' O' w') (initRegs args.toArray) w) : OkM P f args.toArray w H M Φ := by
 subst hn
 refine calls_of_wp hf hb (wp_mono (h _ ⟨by have := Nat.le_of_ble_eq_true hs; simp; omega, fun i => ?_, rfl⟩) fun e a w' hq => ?_)
 ·simp only [initRegs, Array.getD_eq_getD_getElem?]
  rcases Nat.lt_or_ge i args.toArray.size with h | h
  ·rw [Array.getElem?_append_left h]
  ·rw [Array.getElem?_append_right h, Array.getElem?_eq_none h, Array.getElem?_replicate]
   split <;> rfl
 ·cases e with
  | normal => obtain ⟨r, ha, us, hr, hh⟩ := hq; exact ⟨ha.df, _, run_resV hp ha hr, _, rfl, hh⟩
  | ret => obtain ⟨r, ha, us, hr, hh⟩ := hq; exact ⟨ha.df, _, run_resV hp ha hr, _, rfl, hh⟩
  | exit id => obtain ⟨K, hk, _⟩ := hq; simp at hk
  | goto l => exact hq.elim
  | panic c => exact hq.elim
  | outgrown => exact hq.elim
end
end Go.Sw

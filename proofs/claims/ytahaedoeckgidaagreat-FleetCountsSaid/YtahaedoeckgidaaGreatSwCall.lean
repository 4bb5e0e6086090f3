/- Typed rows; calls; slices cut; regions that draw their order. -/
import Derived.Test.YtahaedoeckgidaaGreatSwRow
set_option linter.unusedVariables false
set_option linter.unusedSimpArgs false
namespace Go.Sw
/-! ### rows as lists of data -/
def Rows {α : Type} (e : Enc α) (H : IHeap) (cells : List Value) (xs : List α) : Prop :=
 cells.length = xs.length * e.size ∧ ∀ j x, xs[j]? = some x → ∃ ecs, e.rep H ecs x ∧ ∀ i v, ecs[i]? = some v → cells[j * e.size + i]? = some v
section
variable {α : Type} {e : Enc α} {H H' : IHeap}
theorem Rows.up {cells : List Value} {xs : List α} (h : Rows e H cells xs) (hl : Le H H') : Rows e H' cells xs :=
 ⟨h.1, fun j x hj => by
  obtain ⟨ecs, hr, hi⟩ := h.2 j x hj
  exact ⟨ecs, e.mono hl hr, hi⟩⟩
theorem Rows.nil : Rows e H [] [] := ⟨by simp, fun j x h => by simp at h⟩
theorem Rows.one {ecs : List Value} {x : α} (h : e.rep H ecs x) : Rows e H ecs [x] :=
 ⟨by rw [e.len h]; simp, fun j y hj => by
  match j with
  | 0 => simp at hj; subst hj; exact ⟨ecs, h, fun i v hv => by simpa using hv⟩
  | j + 1 => simp at hj⟩
theorem Rows.app {c1 c2 : List Value} {xs ys : List α} (h : Rows e H c1 xs) (k : Rows e H c2 ys) : Rows e H (c1 ++ c2) (xs ++ ys) := by
 refine ⟨by rw [List.length_append, h.1, k.1, List.length_append, Nat.add_mul], fun j x hj => ?_⟩
 rw [List.getElem?_append] at hj
 split at hj
 ·next hlt =>
  obtain ⟨ecs, hr, hi⟩ := h.2 j x hj
  refine ⟨ecs, hr, fun i v hv => ?_⟩
  have hci := hi i v hv
  rw [List.getElem?_append_left (List.getElem?_eq_some_iff.1 hci).1]; exact hci
 ·next hge =>
  obtain ⟨ecs, hr, hi⟩ := k.2 (j - xs.length) x hj
  refine ⟨ecs, hr, fun i v hv => ?_⟩
  have hci := hi i v hv
  have hle : xs.length * e.size ≤ j * e.size := Nat.mul_le_mul_right _ (by omega)
  rw [Nat.sub_mul] at hci
  rw [List.getElem?_append_right (by rw [h.1]; omega), h.1, show j * e.size + i - xs.length * e.size = j * e.size - xs.length * e.size + i from by omega]
  exact hci
theorem Rows.cons {c1 c2 : List Value} {x : α} {ys : List α} (h : e.rep H c1 x) (k : Rows e H c2 ys) : Rows e H (c1 ++ c2) (x :: ys) := (Rows.one h).app k
end
section
variable {P : Program} {n : Nat} {N R : Cont} {X : List (Nat × Cont)} {r : Regs} {w : World} {ops : Array Oper} {rest : List Oper} {d : Nat} {ty : TypeId} {pos : String} {after : Array Edge}
variable {w0 : World} {H0 : IHeap} {M0 : List Nat} {H : IHeap} {O : OHeap}
/-- A row is written no more: it is data now. -/
theorem St.freezeRow {α : Type} {en : Enc α} (h : St w0 H0 M0 H O w) (k : Nat) {A : Option Addr} {c : Nat} {e : TypeId} {size m : Nat} {cells : List Value} {xs : List α} (hk : O k = some (.row A c e size m cells)) (hs : size = en.size) (hm : m = xs.length) (hr : Rows en H cells xs) :
  ∃ H', Le H H' ∧ RS en H' A c xs ∧ St w0 H0 M0 H' (oup O k none) w := by
 obtain ⟨h1, h2, h3, h4, h5⟩ := h.ok k _ hk
 by_cases hc : c = 0
 ·have hx : xs = [] := List.eq_nil_of_length_eq_zero (by omega)
  subst hx
  exact ⟨H, Le.refl _, RS.nil en H A c h3, h.drop _ fun j p hj => by
   by_cases hkj : k = j
   ·subst hkj; rw [oup_same] at hj; cases hj
   ·rwa [oup_ne O _ hkj] at hj⟩
 ·obtain ⟨g, o, cur, hA, hh, hlen, hat⟩ := h5.resolve_left hc
  obtain ⟨H', hle, hg, hst⟩ := h.freeze k _ hk (g := g) (by simp [Own.ids, hc, hA])
  rw [hh] at hg
  refine ⟨H', hle, ⟨by omega, h3, fun _ => ⟨g, o, hA, fun j x hj => ?_⟩⟩, hst⟩
  obtain ⟨ecs, hrep, hi⟩ := hr.2 j x hj
  refine ⟨g, o + j * en.size, rfl, ecs, en.mono hle hrep, fun i v hv => ?_⟩
  have := hat _ _ (hi i v hv)
  simp only [hc, Go.Sw.hc, hg]
  rw [show o + j * en.size + i = o + (j * en.size + i) from by omega]
  simpa using this
theorem RS.src {α : Type} {en : Enc α} {A : Option Addr} {c : Nat} {xs : List α} (h : RS en H A c xs) (hO : St w0 H0 M0 H O w) : ∃ cells, Src w A xs.length en.size cells ∧ Rows en H cells xs := by
 obtain ⟨h1, h2, h3⟩ := h
 by_cases hx : xs = []
 ·subst hx; exact ⟨[], ⟨by simp, by simp, .inl rfl⟩, Rows.nil⟩
 ·obtain ⟨b, o, hA, hat⟩ := h3 hx
  -- the cells, one element behind the other
  have key : ∀ (ys : List α) (o : Nat), (∀ j x, ys[j]? = some x → At en H ⟨b, o + j * en.size, none⟩ x) → ∃ cells, cells.length = ys.length * en.size ∧ (∀ v ∈ cells, v.oneCell' = true) ∧ (∀ i v, cells[i]? = some v → w.cell? ⟨b, o + i, none⟩ = some v) ∧ Rows en H cells ys := by
   intro ys
   induction ys with
   | nil => intro o _; exact ⟨[], by simp, by simp, by simp, Rows.nil⟩
   | cons y ys ih =>
    intro o hat
    obtain ⟨b', o', hb, ecs, hr, hcs⟩ := hat 0 y rfl
    simp only [Nat.zero_mul, Nat.add_zero, Addr.mk.injEq, and_true] at hb
    obtain ⟨rfl, rfl⟩ := hb
    obtain ⟨cells, hl, h1, hc, hrows⟩ := ih (o + en.size) fun j x hj => by
     have := hat (j + 1) x (by simpa using hj)
     rwa [show o + (j + 1) * en.size = o + en.size + j * en.size from by rw [Nat.succ_mul]; omega] at this
    refine ⟨ecs ++ cells, by rw [List.length_append, en.len hr, hl, List.length_cons, Nat.succ_mul]; omega, fun v hv => (List.mem_append.1 hv).elim (en.one hr v) (h1 v), fun i v hv => ?_, Rows.cons hr hrows⟩
    rw [List.getElem?_append] at hv
    split at hv
    ·exact hO.sub.cell (hcs i v hv)
    ·next hge =>
     have := hc _ _ hv
     rw [en.len hr] at this hge
     rwa [show o + en.size + (i - en.size) = o + i from by omega] at this
  obtain ⟨cells, hl, h1, hc, hrows⟩ := key xs o hat
  exact ⟨cells, ⟨hl, h1, .inr ⟨b, o, hA, hc⟩⟩, hrows⟩
/-- append(s, x..): s a row of the call's own. -/
theorem o_app {ρ : Type} {B : Option ρ} {res : ρ} {t tx e : TypeId} {x y : Operand} {size bytes : Nat} {zs : List Value} (k : Nat) {A A2 : Option Addr} {c m m' c' : Nat} {cells xs : List Value} (hO : St w0 H0 M0 H O w) (hk' : O k = some (.row A c e size m cells))
  (hx : rv r x = .slice A m c) (hy : rv r y = .slice A2 m' c') (hs : Src w A2 m' size xs) (hi : slInfo P t = some (e, size, bytes, zs)) (hz1 : zs.all (·.oneCell') = true) (hby : Nat.ble bytes 16384 = true) (hu : P.underlying tx = some (.slice e))
  (hm : (bif lim (m + m') then B else none) = some res)
  (hk : ∀ A' c'' w', St w0 H0 M0 H (oup O k (some (.row A' c'' e size (m + m') (cells ++ xs)))) w' → B = some res → WL P n ops rest N (upd r d (.slice A' (m + m') c'')) w') (hd : Nat.blt d n = true := by rfl) :
  WL P n ops (⟨some d, .call ⟨.builtin .append, #[x, y], #[t, tx]⟩, ty, pos, after, none⟩ :: rest) N r w := by
 cases hl : lim (m + m') with
 | false => rw [hl] at hm; cases hm
 | true =>
  rw [hl] at hm
  obtain ⟨A', c'', w', hr, hst⟩ := run_append (P := P) (ty := ty) (c' := c') hi (by simpa using hz1) (Nat.le_of_ble_eq_true hby) hu hO hk' hs (by simpa [lim] using hl)
  exact WL.op (fun v w'' => v = .slice A' (m + m') c'' ∧ w'' = w') (Does.val (v := .slice A' (m + m') c'') (by simp [execOp, resolve, invoke, builtin, hx, hy, hr]) ⟨rfl, rfl⟩)
   (fun v w'' ⟨h1, h2⟩ => by subst h1; subst h2; exact hk _ _ _ hst hm) hd
/-- The same, of rows of data. -/
theorem o_appT {α ρ : Type} {en : Enc α} {B : Option ρ} {res : ρ} {t tx e : TypeId} {x y : Operand} {bytes : Nat} {zs : List Value} (k : Nat) {A A2 : Option Addr} {c c' : Nat} {cells ycells : List Value} {xs ys : List α} (hO : St w0 H0 M0 H O w) (hk' : O k = some (.row A c e en.size xs.length cells)) (hr : Rows en H cells xs)
  (hx : rv r x = .slice A xs.length c) (hy : rv r y = .slice A2 ys.length c') (hs : Src w A2 ys.length en.size ycells) (hr2 : Rows en H ycells ys) (hi : slInfo P t = some (e, en.size, bytes, zs)) (hz1 : zs.all (·.oneCell') = true) (hby : Nat.ble bytes 16384 = true) (hu : P.underlying tx = some (.slice e))
  (hm : (bif lim (xs.length + ys.length) then B else none) = some res)
  (hk : ∀ A' c'' cells' w', Rows en H cells' (xs ++ ys) → St w0 H0 M0 H (oup O k (some (.row A' c'' e en.size (xs ++ ys).length cells'))) w' → B = some res → WL P n ops rest N (upd r d (.slice A' (xs ++ ys).length c'')) w') (hd : Nat.blt d n = true := by rfl) :
  WL P n ops (⟨some d, .call ⟨.builtin .append, #[x, y], #[t, tx]⟩, ty, pos, after, none⟩ :: rest) N r w :=
 o_app k hO hk' hx hy hs hi hz1 hby hu hm (fun A' c'' w' hst hb => by
  have := hk A' c'' _ w' (hr.app hr2) (by simpa using hst) hb
  simpa using this) hd
/-- Values that tell data. -/
def Elems {α : Type} (en : Enc α) (H : IHeap) : List Value → List α → Prop
 | [], [] => True
 | u :: us, x :: xs => en.rep H (cl u) x ∧ Elems en H us xs
 | _, _ => False
theorem Elems.rows {α : Type} {en : Enc α} {H : IHeap} : ∀ {us : List Value} {xs : List α}, Elems en H us xs → Rows en H (us.flatMap cl) xs ∧ us.length = xs.length ∧ ∀ u ∈ us, (cl u).length = en.size ∧ ∀ v ∈ cl u, v.oneCell' = true
 | [], [], _ => ⟨Rows.nil, rfl, by simp⟩
 | u :: us, x :: xs, h => by
  obtain ⟨h1, h2, h3⟩ := Elems.rows h.2
  refine ⟨by simpa using Rows.cons h.1 h1, by simp [h2], fun v hv => ?_⟩
  rcases List.mem_cons.1 hv with rfl | hv
  ·exact ⟨en.len h.1, en.one h.1⟩
  ·exact h3 v hv
 | [], _ :: _, h => h.elim
 | _ :: _, [], h => h.elim
/-- A slice that is written out, of data. -/
theorem o_litT {α : Type} {en : Enc α} {t e : TypeId} {len bytes : Nat} {zs : List Value} {parts : Array (Nat × Operand)} (k : Nat) (us : List Value) (xs : List α) (hO : St w0 H0 M0 H O w) (hi : slInfo P t = some (e, en.size, bytes, zs)) (he : Elems en H us xs)
  (hp : parts.toList.map (fun p => (p.1, rv r p.2)) = numb 0 us) (hl : xs.length = len) (hlen : Nat.ble (len * en.size) 16777216 = true)
  (hk : ∀ g cells w', Rows en H cells xs → St w0 H0 M0 H (oup O k (some (.row (some ⟨g, 0, none⟩) xs.length e en.size xs.length cells))) w' → WL P n ops rest N (upd r d (.slice (some ⟨g, 0, none⟩) xs.length xs.length)) w') (hd : Nat.blt d n = true := by rfl) :
  WL P n ops (⟨some d, .buildSlice t len parts, ty, pos, after, none⟩ :: rest) N r w := by
 obtain ⟨h1, h2, h3⟩ := he.rows
 subst hl
 exact o_lit k us _ hO hi hp h2 hlen h3 rfl (fun g w' hst => hk g _ w' h1 hst) hd
theorem St.nilRowT {α : Type} (h : St w0 H0 M0 H O w) (k : Nat) (A : Option Addr) (e : TypeId) (en : Enc α) : St w0 H0 M0 H (oup O k (some (.row A 0 e en.size ([] : List α).length []))) w := h.nilRow k A e en.size
/-! ### calls -/
def isGo (P : Program) (f : FuncId) : Bool :=
 match P.funcs[f]? with
 | some fn => fn.name != "runtime.NumGoroutine" && fn.body.isSome
 | none => false
theorem run_callFunc {f : FuncId} {args : Array Value} (h : isGo P f = true) : (callFunc f args).run P w = .ok (.enter f args) w := by
 unfold isGo at h
 split at h
 ·next fn hf =>
  simp only [Bool.and_eq_true, bne_iff_ne, ne_eq, Option.isSome_iff_ne_none] at h
  simp [callFunc, program, Sem.run, hf, h.1, h.2]
 ·cases h
/-- A contract: what a call answers, and what it made. -/
def Ok (P : Program) (f : FuncId) (args : Array Value) (w : World) (H : IHeap) (Φ : IHeap → Value → Prop) : Prop :=
 Calls P f args w fun e w' => ∃ v, e = .returned v ∧ ∃ H', Φ H' v ∧ St w H [] H' ono w'
theorem o_call {f : FuncId} {as : Array Operand} {ts : Array TypeId} {args : List Value} {Φ : IHeap → Value → Prop} (hO : St w0 H0 M0 H O w) (hg : isGo P f = true) (hc : Ok P f args.toArray w H Φ) (ha : as.toList.map (rv r) = args)
  (hk : ∀ v H' w', Le H H' → Φ H' v → St w0 H0 M0 H' O w' → WL P n ops rest N (upd r d v) w') (hd : Nat.blt d n = true := by rfl) :
  WL P n ops (⟨some d, .call ⟨.value (.func f), as, ts⟩, ty, pos, after, none⟩ :: rest) N r w := by
 have hmap : as.map (rv r) = args.toArray := by rw [← ha]; apply Array.ext'; simp
 refine WL.op (fun v w' => ∃ H', Le H H' ∧ Φ H' v ∧ St w0 H0 M0 H' O w') ?_ (fun v w' ⟨H', h1, h2, h3⟩ => hk v H' w' h1 h2 h3) hd
 unfold Does
 simp only [execOp, resolve, Deferred.ofValue, rv, hmap, Sem.run_bind, Sem.run_pure, Result.andThen_ok, invoke, run_callFunc hg]
 simp only [List.append_toArray, List.nil_append, Array.append_empty, Array.empty_append]
 refine Calls.mono hc fun e w' ⟨v, he, H', hΦ, hst⟩ => ⟨v, he, H', hst.le, hΦ, hO.call hst⟩
/-- A call of a function value. -/
theorem o_callv {f : FuncId} {x : Nat} {as : Array Operand} {ts : Array TypeId} {args caps : List Value} {Φ : IHeap → Value → Prop} (hO : St w0 H0 M0 H O w) (hx : r x = .func (.func f) #[] caps.toArray) (hg : isGo P f = true) (hc : Ok P f (args ++ caps).toArray w H Φ) (ha : as.toList.map (rv r) = args)
  (hk : ∀ v H' w', Le H H' → Φ H' v → St w0 H0 M0 H' O w' → WL P n ops rest N (upd r d v) w') (hd : Nat.blt d n = true := by rfl) :
  WL P n ops (⟨some d, .call ⟨.value (.tmp x), as, ts⟩, ty, pos, after, none⟩ :: rest) N r w := by
 have hmap : as.map (rv r) = args.toArray := by rw [← ha]; apply Array.ext'; simp
 refine WL.op (fun v w' => ∃ H', Le H H' ∧ Φ H' v ∧ St w0 H0 M0 H' O w') ?_ (fun v w' ⟨H', h1, h2, h3⟩ => hk v H' w' h1 h2 h3) hd
 unfold Does
 simp only [execOp, resolve, Deferred.ofValue, rv, hx, hmap, Sem.run_bind, Sem.run_pure, Result.andThen_ok, invoke, run_callFunc hg]
 simp only [List.append_toArray, List.nil_append, Array.empty_append]
 refine Calls.mono hc fun e w' ⟨v, he, H', hΦ, hst⟩ => ⟨v, he, H', hst.le, hΦ, hO.call hst⟩
theorem bindSome {α β : Type} {a : Option α} {k : α → Option β} {res : β} (h : a.bind k = some res) : ∃ t, a = some t ∧ k t = some res := Option.bind_eq_some_iff.1 h
/-- A function's contract out of its body's walk. -/
theorem ok_of_W {m : Nat} {f : FuncId} {fn : Func} {c : Code} {args : List Value} {Φ : IHeap → Value → Prop} (hf : P.funcs[f]? = some fn) (hb : fn.body = some c) (hn : fn.ntmps = m) {ts : List Nat} (hp : fn.results = (ts.map ResultVar.tmp).toArray) (hl : Nat.ble ts.length 5 = true) (hs : Nat.ble args.length m = true)
  (h : W P m c (fun r w' => ∃ H', Φ H' (tupled (ts.map r)) ∧ St w H [] H' ono w') [] (fun r w' => ∃ H', Φ H' (tupled (ts.map r)) ∧ St w H [] H' ono w') (initRegs args.toArray) w) : Ok P f args.toArray w H Φ := by
 subst hn
 exact calls_of_W (R := fun v w' => ∃ H', Φ H' v ∧ St w H [] H' ono w') hf hb hp hl (by simpa using Nat.le_of_ble_eq_true hs) h
/-! ### results that are the caller's own; results in variables -/
theorem St.add (h : St w0 H0 M0 H O w) (k : Nat) (p : Own) (hp : p.ok w) (hid : ∀ g, g ∈ p.ids → H g = none ∧ (g ∈ M0 ∨ w0.heap.size ≤ g) ∧ ∀ j q, O j = some q → g ∉ q.ids) : St w0 H0 M0 H (oup O k (some p)) w := by
 refine ⟨h.sub, h.le, h.new_, fun j q hj => ?_, fun j q g hj hg => ?_, fun j i q s g hj hi hq hs => ?_, h.fr, h.sz, h.os, h.tape, h.output⟩
 ·by_cases hk : k = j
  ·subst hk; rw [oup_same] at hj; injection hj with hj; subst hj; exact hp
  ·rw [oup_ne O _ hk] at hj; exact h.ok j q hj
 ·by_cases hk : k = j
  ·subst hk; rw [oup_same] at hj; injection hj with hj; subst hj; exact ⟨(hid g hg).1, (hid g hg).2.1⟩
  ·rw [oup_ne O _ hk] at hj; exact h.own j q g hj hg
 ·by_cases hk : k = j
  ·subst hk
   rw [oup_same] at hj; injection hj with hj; subst hj
   by_cases hk2 : k = i
   ·exact hk2
   ·rw [oup_ne O _ hk2] at hi; exact absurd hs ((hid g hq).2.2 i s hi)
  ·rw [oup_ne O _ hk] at hj
   by_cases hk2 : k = i
   ·subst hk2; rw [oup_same] at hi; injection hi with hi; subst hi; exact absurd hq ((hid g hs).2.2 j q hj)
   ·rw [oup_ne O _ hk2] at hi; exact h.nd j i q s g hj hi hq hs
theorem St.callRow {H' : IHeap} {O' : OHeap} {w' : World} (h : St w0 H0 M0 H O w) (hc : St w H [] H' O' w') (k j : Nat) (p : Own) (hj : O' j = some p) : St w0 H0 M0 H' (oup O k (some p)) w' := by
 refine (h.call hc.done).add k p (hc.ok j p hj) fun g hg => ?_
 obtain ⟨h1, h2⟩ := hc.own j p g hj hg
 have hge : w.heap.size ≤ g := by
  rcases h2 with h2 | h2
  ·cases h2
  ·exact h2
 exact ⟨h1, .inr (Nat.le_trans h.sz hge), fun i q hi hq => by have := Own.lt (h.ok i q hi) hq; omega⟩
/-- A contract whose results may be the caller's own. -/
def OkO (P : Program) (f : FuncId) (args : Array Value) (w : World) (H : IHeap) (Φ : IHeap → OHeap → Value → Prop) : Prop :=
 Calls P f args w fun e w' => ∃ v, e = .returned v ∧ ∃ H' O', Φ H' O' v ∧ St w H [] H' O' w'
theorem o_callO {f : FuncId} {as : Array Operand} {ts : Array TypeId} {args : List Value} {Φ : IHeap → OHeap → Value → Prop} (hO : St w0 H0 M0 H O w) (hg : isGo P f = true) (hc : OkO P f args.toArray w H Φ) (ha : as.toList.map (rv r) = args)
  (hk : ∀ v H' O' w', Le H H' → Φ H' O' v → St w H [] H' O' w' → WL P n ops rest N (upd r d v) w') (hd : Nat.blt d n = true := by rfl) :
  WL P n ops (⟨some d, .call ⟨.value (.func f), as, ts⟩, ty, pos, after, none⟩ :: rest) N r w := by
 have hmap : as.map (rv r) = args.toArray := by rw [← ha]; apply Array.ext'; simp
 refine WL.op (fun v w' => ∃ H' O', Φ H' O' v ∧ St w H [] H' O' w') ?_ (fun v w' ⟨H', O', h2, h3⟩ => hk v H' O' w' h3.le h2 h3) hd
 unfold Does
 simp only [execOp, resolve, Deferred.ofValue, rv, hmap, Sem.run_bind, Sem.run_pure, Result.andThen_ok, invoke, run_callFunc hg]
 simp only [List.append_toArray, List.nil_append, Array.append_empty, Array.empty_append]
 exact hc
/-- Results as they stand in registers, and in variables. -/
def ResV (P : Program) (w : World) (r : Regs) : List ResultVar → List Value → Prop
 | [], [] => True
 | .tmp t :: rs, v :: us => r t = v ∧ ResV P w r rs us
 | .cell a t :: rs, v :: us => (∃ ad, r a = .pointer (some ad) ∧ (loadVar t ad).run P w = .ok v w) ∧ ResV P w r rs us
 | _, _ => False
theorem run_mapM_res {f : ResultVar → Sem Value} : ∀ {rs : List ResultVar} {us : List Value}, List.length rs = List.length us → (∀ (i : Nat) (x : ResultVar) (v : Value), rs[i]? = some x → us[i]? = some v → (f x).run P w = .ok v w) → (List.mapM f rs).run P w = .ok us w
 | [], [], _, _ => by simp
 | x :: rs, v :: us, hl, h => by
  have h0 := h 0 x v rfl rfl
  have hr := run_mapM_res (f := f) (rs := rs) (us := us) (by simpa using hl) (fun i x v hx hv => h (i + 1) x v (by simpa using hx) (by simpa using hv))
  rw [List.mapM_cons]
  simp only [Sem.run_bind, h0, Result.andThen_ok, hr, Sem.run_pure]
 | [], _ :: _, hl, _ => by simp at hl
 | _ :: _, [], hl, _ => by simp at hl
theorem ResV.len : ∀ {rs : List ResultVar} {us : List Value}, ResV P w r rs us → rs.length = us.length
 | [], [], _ => rfl
 | .tmp t :: rs, v :: us, h => by simp [ResV.len h.2]
 | .cell a t :: rs, v :: us, h => by simp [ResV.len h.2]
 | [], _ :: _, h => h.elim
 | .tmp _ :: _, [], h => h.elim
 | .cell _ _ :: _, [], h => h.elim
theorem ResV.at_ {m : Nat} {a : Act} (ha : Sts m r a) : ∀ {rs : List ResultVar} {us : List Value}, ResV P w r rs us → ∀ (i : Nat) (x : ResultVar) (v : Value), rs[i]? = some x → us[i]? = some v →
  ((match x with | ResultVar.tmp t => pure (a.tmps.getD t undef) | ResultVar.cell ad t => do loadVar t (← asAddr (a.tmps.getD ad undef)) : Sem Value)).run P w = .ok v w
 | .tmp t :: rs, v :: us, h, 0, x, u, hx, hu => by
  simp only [List.getElem?_cons_zero, Option.some.injEq] at hx hu
  subst hx; subst hu
  simp only [ha.ev, h.1]; simp
 | .cell ad t :: rs, v :: us, h, 0, x, u, hx, hu => by
  simp only [List.getElem?_cons_zero, Option.some.injEq] at hx hu
  subst hx; subst hu
  obtain ⟨⟨p, hp, hl⟩, _⟩ := h
  simp only [ha.ev, hp, asAddr]; simpa using hl
 | .tmp t :: rs, v :: us, h, i + 1, x, u, hx, hu => ResV.at_ ha h.2 i x u (by simpa using hx) (by simpa using hu)
 | .cell ad t :: rs, v :: us, h, i + 1, x, u, hx, hu => ResV.at_ ha h.2 i x u (by simpa using hx) (by simpa using hu)
 | [], _, _, i, x, u, hx, _ => by simp at hx
 | .tmp _ :: _, [], h, _, _, _, _, _ => h.elim
 | .cell _ _ :: _, [], h, _, _, _, _, _ => h.elim
theorem run_resV {fn : Func} {rs : List ResultVar} {us : List Value} (hp : fn.results = rs.toArray) {m : Nat} {a : Act} (ha : Sts m r a) (h : ResV P w r rs us) : (results fn a.tmps).run P w = .ok (tupled us) w := by
 unfold results
 rw [hp, List.mapM_toArray]
 have hh : ∀ f : ResultVar → Sem Value, (∀ t, f (.tmp t) = pure (a.tmps.getD t undef)) → (∀ ad t, f (.cell ad t) = do loadVar t (← asAddr (a.tmps.getD ad undef))) → (List.mapM f rs).run P w = .ok us w := fun f h1 h2 =>
  run_mapM_res (P := P) (w := w) h.len (fun i x v hx hv => by
   have := ResV.at_ ha h i x v hx hv
   cases x with
   | tmp t => rw [h1]; exact this
   | cell ad t => rw [h2]; exact this)
 rw [map_eq_pure_bind]
 simp only [Sem.run_bind]
 rw [hh _ (fun t => rfl) (fun ad t => rfl)]
 simp only [Result.andThen_ok, Sem.run_pure]
 match us, h.len with
 | [], _ => rfl
 | [v], _ => simp [tupled]
 | v :: v2 :: l, _ => simp [tupled]
/-- A function's contract out of its body's walk, its results where they stand. -/
theorem okO_of_W {m : Nat} {f : FuncId} {fn : Func} {c : Code} {args : List Value} {Φ : IHeap → OHeap → Value → Prop} (hf : P.funcs[f]? = some fn) (hb : fn.body = some c) (hn : fn.ntmps = m) {rs : List ResultVar} (hp : fn.results = rs.toArray) (hs : Nat.ble args.length m = true)
  (h : W P m c (fun r w' => ∃ us, ResV P w' r rs us ∧ ∃ H' O', Φ H' O' (tupled us) ∧ St w H [] H' O' w') [] (fun r w' => ∃ us, ResV P w' r rs us ∧ ∃ H' O', Φ H' O' (tupled us) ∧ St w H [] H' O' w') (initRegs args.toArray) w) : OkO P f args.toArray w H Φ := by
 subst hn
 refine calls_of_wp hf hb (wp_mono (h _ ⟨by have := Nat.le_of_ble_eq_true hs; simp; omega, fun i => ?_, rfl⟩) fun e a w' hq => ?_)
 ·simp only [initRegs, Array.getD_eq_getD_getElem?]
  rcases Nat.lt_or_ge i args.toArray.size with h | h
  ·rw [Array.getElem?_append_left h]
  ·rw [Array.getElem?_append_right h, Array.getElem?_eq_none h, Array.getElem?_replicate]
   split <;> rfl
 ·cases e with
  | normal => obtain ⟨r, ha, us, hr, hh⟩ := hq; exact ⟨ha.df, _, run_resV hp ha hr, _, rfl, hh⟩
  | ret => obtain ⟨r, ha, us, hr, hh⟩ := hq; exact ⟨ha.df, _, run_resV hp ha hr, _, rfl, hh⟩
  | exit id => obtain ⟨K, hk, _⟩ := hq; simp at hk
  | goto l => exact hq.elim
  | panic c => exact hq.elim
  | outgrown => exact hq.elim
theorem OkO.ok {f : FuncId} {args : Array Value} {Φ : IHeap → Value → Prop} (h : OkO P f args w H fun H' _ v => Φ H' v) : Ok P f args w H Φ :=
 Calls.mono h fun e w' ⟨v, he, H', O', hΦ, hst⟩ => ⟨v, he, H', hΦ, hst.done⟩
/-- A variable is written no more. -/
theorem St.freezeBlk {α : Type} {en : Enc α} {x : α} (h : St w0 H0 M0 H O w) (k : Nat) {g : Nat} {cs : List Value} {e : TypeId} (hk : O k = some (.blk g cs e)) (hr : en.rep H cs x) :
  ∃ H', Le H H' ∧ At en H' ⟨g, 0, none⟩ x ∧ St w0 H0 M0 H' (oup O k none) w := by
 obtain ⟨H', hle, hg', hst⟩ := h.freeze k _ hk (g := g) rfl
 have hok := h.ok k _ hk
 simp only [Own.ok] at hok
 rw [hok] at hg'
 exact ⟨H', hle, ⟨g, 0, rfl, cs, en.mono hle hr, fun i v hv => by simp [hc, hg', hv]⟩, hst⟩
/-- The address of an element of a row of the call's own. -/
theorem St.rowA {k : Nat} {A : Option Addr} {c size m : Nat} {e : TypeId} {cells : List Value} {i : Int} (h : St w0 H0 M0 H O w) (hk : O k = some (.row A c e size m cells)) (hi : inb i m = true) : c ≠ 0 ∧ ∃ g o, A = some ⟨g, o, none⟩ := by
 obtain ⟨h1, h2, h3, h4, h5⟩ := h.ok k _ hk
 have := inb_lt hi
 have hc : c ≠ 0 := by omega
 obtain ⟨g, o, cur, hA, _⟩ := h5.resolve_left hc
 exact ⟨hc, g, o, hA⟩
/-- A store into a row of the call's own. -/
theorem run_store_row {k : Nat} {A : Option Addr} {c size m g o i : Nat} {e : TypeId} {cells us : List Value} (h : St w0 H0 M0 H O w) (hk : O k = some (.row A c e size m cells)) (hc : c ≠ 0) (hA : A = some ⟨g, o, none⟩) (hl : i + us.length ≤ cells.length) (h1 : ∀ u ∈ us, u.oneCell' = true) :
  ∃ w', (storeCells ⟨g, o + i, none⟩ us 0).run P w = .ok () w' ∧ St w0 H0 M0 H (oup O k (some (.row A c e size m (splice cells i us)))) w' := by
 obtain ⟨q1, q2, q3, q4, q5⟩ := h.ok k _ hk
 obtain ⟨g', o', cur, hA', hh, hlen, hat⟩ := q5.resolve_left hc
 rw [hA] at hA'
 simp only [Option.some.injEq, Addr.mk.injEq, and_true] at hA'
 obtain ⟨rfl, rfl⟩ := hA'
 have hcl : cells.length ≤ c * size := by rw [q1]; exact Nat.mul_le_mul_right _ q2
 have hw : o + i + 0 + us.length ≤ cur.length := by omega
 obtain ⟨w', hr, hh', hch, hs⟩ := run_storeCells_w (P := P) (off := o + i) us 0 w cur hh h1 hw
 refine ⟨w', hr, h.put k _ (fun b => b = g) hch (fun b hb => ⟨_, hk, by subst hb; simp [Own.ids, hc, hA]⟩) ⟨by rw [splice_length]; exact q1, q2, q3, ?_, .inr ⟨g, o, _, hA, hh', by rw [splice_length]; exact hlen, fun j v hv => ?_⟩⟩
  (fun g' hg' => .inr ⟨_, hk, by simpa [Own.ids, hc] using hg'⟩)⟩
 ·intro v hv
  obtain ⟨j, hj⟩ := List.getElem?_of_mem hv
  rw [getElem?_splice _ _ _ _ hl] at hj
  split at hj
  ·exact h1 v (List.mem_of_getElem? hj)
  ·exact q4 v (List.mem_of_getElem? hj)
 ·rw [getElem?_splice _ _ _ _ hl] at hv
  rw [Nat.add_zero, getElem?_splice _ _ _ _ (by omega)]
  split at hv
  ·next hc1 => rw [if_pos (by omega), show o + j - (o + i) = j - i from by omega]; exact hv
  ·next hc1 => rw [if_neg (by omega)]; exact hat j v hv
theorem Rows.set {α : Type} {en : Enc α} {cells us : List Value} {xs : List α} {x : α} {i : Nat} (h : Rows en H cells xs) (hi : i < xs.length) (hx : en.rep H us x) : Rows en H (splice cells (i * en.size) us) (xs.set i x) := by
 have hul := en.len hx
 have hle : i * en.size + us.length ≤ cells.length := by
  rw [h.1, hul]
  have : (i + 1) * en.size ≤ xs.length * en.size := Nat.mul_le_mul_right _ hi
  rw [Nat.succ_mul] at this; omega
 refine ⟨by rw [splice_length, h.1]; simp, fun j y hj => ?_⟩
 rw [List.getElem?_set] at hj
 split at hj
 ·next e =>
  subst e
  simp [hi] at hj; subst hj
  refine ⟨us, hx, fun q v hv => ?_⟩
  have hq := (List.getElem?_eq_some_iff.1 hv).1
  rw [getElem?_splice _ _ _ _ hle, if_pos (by omega), Nat.add_sub_cancel_left]; exact hv
 ·next e =>
  obtain ⟨ecs, hr, hc⟩ := h.2 j y hj
  refine ⟨ecs, hr, fun q v hv => ?_⟩
  have hq := (List.getElem?_eq_some_iff.1 hv).1
  rw [en.len hr] at hq
  rw [getElem?_splice _ _ _ _ hle, if_neg ?_]
  ·exact hc q v hv
  ·intro ⟨a1, a2⟩
   rw [hul] at a2
   rcases Nat.lt_or_gt_of_ne e with hlt | hgt
   ·have : (i + 1) * en.size ≤ j * en.size := Nat.mul_le_mul_right _ hlt
    rw [Nat.succ_mul] at this; omega
   ·have : (j + 1) * en.size ≤ i * en.size := Nat.mul_le_mul_right _ hgt
    rw [Nat.succ_mul] at this; omega
theorem o_stRow {α : Type} {en : Enc α} {t : TypeId} {x y : Operand} {k : Nat} {A : Option Addr} {c g o : Nat} {e : TypeId} {cells us : List Value} {xs : List α} {z : α} {i : Int} (v : Value) (hO : St w0 H0 M0 H O w) (hk' : O k = some (.row A c e en.size xs.length cells)) (hr : Rows en H cells xs) (hc : c ≠ 0) (hA : A = some ⟨g, o, none⟩) (hi : inb i xs.length = true)
  (hx : rv r x = .pointer (some ((⟨g, o, none⟩ : Addr).add (i.toNat * en.size)))) (hy : rv r y = v) (hv : cl v = us) (hz : en.rep H us z) (ht : tySize P t = some en.size)
  (hk : ∀ cells' w', Rows en H cells' (xs.set i.toNat z) → St w0 H0 M0 H (oup O k (some (.row A c e en.size (xs.set i.toNat z).length cells'))) w' → WL P n ops rest N r w') :
  WL P n ops (⟨none, .store t x y, ty, pos, after, none⟩ :: rest) N r w := by
 have hlt := (inb_lt hi).2
 have hul := en.len hz
 have hle : i.toNat * en.size + us.length ≤ cells.length := by
  rw [hr.1, hul]
  have : (i.toNat + 1) * en.size ≤ xs.length * en.size := Nat.mul_le_mul_right _ hlt
  rw [Nat.succ_mul] at this; omega
 obtain ⟨w', hrun, hst⟩ := run_store_row (P := P) hO hk' hc hA hle (en.one hz)
 refine WL.op0 (fun _ w'' => w'' = w') ?_ (fun _ w'' h2 => by subst h2; exact hk _ _ (hr.set hlt hz) (by simpa using hst))
 have hsz : v.cells.size = en.size := by rw [← hul, ← hv]; simp [cl]
 have hcl : v.cells.toList = us := hv
 unfold Does
 simp [execOp, Instr.storeAt, hx, hy, Instr.sureAddr, addr_add, storeVar, run_sizeOf ht, hsz, hcl, hrun]
/-- What an element of a row of the call's own holds. -/
theorem row_elem {α : Type} {en : Enc α} {k : Nat} {A : Option Addr} {c g o : Nat} {e : TypeId} {cells : List Value} {xs : List α} {z : α} {i : Nat} (hO : St w0 H0 M0 H O w) (hk' : O k = some (.row A c e en.size xs.length cells)) (hr : Rows en H cells xs) (hc : c ≠ 0) (hA : A = some ⟨g, o, none⟩) (hz : xs[i]? = some z) :
  ∃ ecs, en.rep H ecs z ∧ ∀ j v, ecs[j]? = some v → w.cell? ⟨g, o + (i * en.size + j), none⟩ = some v := by
 obtain ⟨ecs, h1, h2⟩ := hr.2 i z hz
 exact ⟨ecs, h1, fun j v hv => row_cell hO hk' hA hc (h2 j v hv)⟩
end
end Go.Sw

/- The plain law: what a fleet is; it asks; it comes on. -/
import Derived.Test.YtahaedoeckgidaaGreatPlJ
set_option linter.unusedVariables false
set_option linter.unusedSimpArgs false
namespace Go.Sw.FL
structure Ctx (m : ApiModel) (ts0 : List (List Int)) (d : Nat) : Prop where
 dim : m.Dim = (d : Int)
 d8 : d ≤ 8
 lay : ∀ l ∈ m.Layers, layB l (d : Int) = true
 n4 : m.Layers.length ≤ 4
 n1 : 1 ≤ m.Layers.length
 rc : rect ts0 d
 t16 : ts0.length ≤ 16
 t1 : 1 ≤ ts0.length
 okv : ∀ v ∈ ts0, ∀ n ∈ v, ok n
 mb : modB m = true
def tk (m : ApiModel) (ts0 : List (List Int)) (L : Nat) : List (List Int) := fwd (m.Layers.take L) ts0
def PM (m : ApiModel) (ts0 : List (List Int)) (L : Nat) : List ModelPart := parts (at0 m.Layers (L : Int)) (tk m ts0 L)
def VM (m : ApiModel) (ts0 : List (List Int)) (L : Nat) (p : ModelPart) : List Int := ans (at0 m.Layers (L : Int)) (tk m ts0 L) p
theorem fwd_snoc (ls : List ApiLayer) (l : ApiLayer) (ts : List (List Int)) : fwd (ls ++ [l]) ts = fwd1 l (fwd ls ts) := by simp [fwd]
theorem fwd_len : ∀ (ls : List ApiLayer) (ts : List (List Int)), (fwd ls ts).length = ts.length
 | [], ts => rfl
 | l :: ls, ts => by
  have : fwd (l :: ls) ts = fwd ls (fwd1 l ts) := rfl
  rw [this, fwd_len ls, fwd1_len]
theorem fwd_ok : ∀ (ls : List ApiLayer) (ts : List (List Int)), (∀ v ∈ ts, ∀ n ∈ v, ok n) → ∀ v ∈ fwd ls ts, ∀ n ∈ v, ok n
 | [], ts, h => h
 | l :: ls, ts, h => by
  have : fwd (l :: ls) ts = fwd ls (fwd1 l ts) := rfl
  rw [this]; exact fwd_ok ls _ (fwd1_ok h)
theorem fwd_rect {d : Nat} (hd : d ≤ 8) : ∀ (ls : List ApiLayer) (ts : List (List Int)), (∀ l ∈ ls, layB l (d : Int) = true) → rect ts d → ts.length ≤ 16 → rect (fwd ls ts) d
 | [], ts, _, h, _ => h
 | l :: ls, ts, hl, h, ht => by
  have e : fwd (l :: ls) ts = fwd ls (fwd1 l ts) := rfl
  rw [e]; exact fwd_rect hd ls _ (fun x hx => hl x (by simp [hx])) (fwd1_rect ⟨hl l (by simp), h, ht, hd⟩) (by rw [fwd1_len]; exact ht)
section
variable {m : ApiModel} {ts0 : List (List Int)} {d : Nat}
theorem tk_len (L : Nat) : (tk m ts0 L).length = ts0.length := fwd_len _ _
theorem Ctx.rect (C : Ctx m ts0 d) (L : Nat) : rect (tk m ts0 L) d := fwd_rect C.d8 _ _ (fun l hl => C.lay l (List.mem_of_mem_take hl)) C.rc C.t16
theorem Ctx.okt (C : Ctx m ts0 d) (L : Nat) : ∀ v ∈ tk m ts0 L, ∀ n ∈ v, ok n := fwd_ok _ _ C.okv
theorem Ctx.lt (C : Ctx m ts0 d) {L : Nat} (h : L < m.Layers.length) : LT (at0 m.Layers (L : Int)) d (tk m ts0 L) :=
 ⟨C.lay _ (at0_mem (by omega) (by omega)), C.rect L, by rw [tk_len]; exact C.t16, C.d8⟩
theorem tk_succ {L : Nat} (h : L < m.Layers.length) : tk m ts0 (L + 1) = fwd1 (at0 m.Layers (L : Int)) (tk m ts0 L) := by
 unfold tk
 rw [List.take_succ_eq_append_getElem h, fwd_snoc, at0_nat h]
theorem tk_all : tk m ts0 m.Layers.length = fwd m.Layers ts0 := by unfold tk; rw [List.take_length]
theorem PM_len (C : Ctx m ts0 d) (L : Nat) : (PM m ts0 L).length ≤ 32 := by
 have h := parts_len (at0 m.Layers (L : Int)) (tk m ts0 L)
 have := C.t16
 rw [tk_len] at h
 unfold PM; omega
theorem PM_ok {L : Nat} {p : ModelPart} (h : p ∈ PM m ts0 L) : pOk ts0.length ((at0 m.Layers (L : Int)).Experts.length : Int) p := by
 have := parts_mem h
 rwa [tk_len] at this
theorem exp8 (C : Ctx m ts0 d) {L : Nat} (h : L < m.Layers.length) : (at0 m.Layers (L : Int)).Experts.length ≤ 8 := (lay_d (C.lt h).1).1.2
theorem VM_ok (C : Ctx m ts0 d) {L : Nat} (h : L < m.Layers.length) {p : ModelPart} (hp : p ∈ PM m ts0 L) : (VM m ts0 L p).length = d ∧ ∀ n ∈ VM m ts0 L p, ok n :=
 ⟨(ans_len (C.lt h) (parts_mem hp)).1, run_ok _ _⟩
/-! ### frames -/
inductive Fr where
 | ask (L : Nat) (p : ModelPart) (to e : Int)
 | rep (L : Nat) (p : ModelPart) (nd e : Int)
 | sta (L : Nat) (p : ModelPart) (nd e : Int)
def Fr.L : Fr → Nat | .ask L _ _ _ => L | .rep L _ _ _ => L | .sta L _ _ _ => L
def Fr.p : Fr → ModelPart | .ask _ p _ _ => p | .rep _ p _ _ => p | .sta _ p _ _ => p
def Fr.nd : Fr → Int | .ask _ _ n _ => n | .rep _ _ n _ => n | .sta _ _ n _ => n
def Fr.e : Fr → Int | .ask _ _ _ e => e | .rep _ _ _ e => e | .sta _ _ _ e => e
def Fr.w : Fr → Nat | .ask _ _ _ _ => 2 | .rep _ _ _ _ => 1 | .sta _ _ _ _ => 1
def msgF (m : ApiModel) (ts0 : List (List Int)) : Fr → ApiMsg
 | .ask L p to e => ⟨1, 0, to, 0, 1, (L : Int), p.Token, p.Rank, p.Expert, e, at0 (tk m ts0 L) p.Token⟩
 | .rep L p nd e => ⟨2, nd, 0, 0, 1, (L : Int), p.Token, p.Rank, p.Expert, e, VM m ts0 L p⟩
 | .sta L p nd e => ⟨3, nd, 0, 0, 1, (L : Int), p.Token, p.Rank, p.Expert, e, []⟩
def okFr (m : ApiModel) (ts0 : List (List Int)) (x : Fr) : Prop := x.L < m.Layers.length ∧ x.p ∈ PM m ts0 x.L ∧ (1 ≤ x.nd ∧ x.nd ≤ 4) ∧ (0 ≤ x.e ∧ x.e ≤ 2147483647)
def str (m : ApiModel) (ts0 : List (List Int)) (x : Fr) : Str := putS (msgF m ts0 x)
theorem tok_ok (C : Ctx m ts0 d) {L : Nat} (h : L < m.Layers.length) {p : ModelPart} (hp : p ∈ PM m ts0 L) : (at0 (tk m ts0 L) p.Token).length = d ∧ ∀ n ∈ at0 (tk m ts0 L) p.Token, ok n := by
 have hm : at0 (tk m ts0 L) p.Token ∈ tk m ts0 L := at0_mem (PM_ok hp).1.1 (by rw [tk_len]; exact (PM_ok hp).1.2)
 exact ⟨C.rect L _ hm, C.okt L _ hm⟩
theorem msg_ok (C : Ctx m ts0 d) {x : Fr} (h : okFr m ts0 x) : okMsg (msgF m ts0 x) := by
 obtain ⟨h1, h2, h3, h4⟩ := h
 obtain ⟨p1, p2, p3⟩ := PM_ok h2
 have p8 := exp8 C h1
 have hn4 := C.n4
 have h16 := C.t16
 have hd8 := C.d8
 cases x with
 | ask L p to e =>
  simp only [Fr.L, Fr.p, Fr.nd, Fr.e] at *
  obtain ⟨t1, t2⟩ := tok_ok C h1 h2
  refine ⟨fun n hn => ?_, fun n hn => by have := t2 n hn; unfold ok at this; omega, by show (1 : Int) ≤ 1 ∧ (1 : Int) ≤ 4; omega, by show (at0 (tk m ts0 L) p.Token).length ≤ 8; omega⟩
  simp only [ten, msgF, List.mem_cons, List.not_mem_nil, or_false] at hn
  rcases p2 with p2 | p2 <;> rcases hn with rfl | rfl | rfl | rfl | rfl | rfl | rfl | rfl | rfl | rfl <;> omega
 | rep L p to e =>
  simp only [Fr.L, Fr.p, Fr.nd, Fr.e] at *
  obtain ⟨t1, t2⟩ := VM_ok C h1 h2
  refine ⟨fun n hn => ?_, fun n hn => by have := t2 n hn; unfold ok at this; omega, by show (1 : Int) ≤ 2 ∧ (2 : Int) ≤ 4; omega, by show (VM m ts0 L p).length ≤ 8; omega⟩
  simp only [ten, msgF, List.mem_cons, List.not_mem_nil, or_false] at hn
  rcases p2 with p2 | p2 <;> rcases hn with rfl | rfl | rfl | rfl | rfl | rfl | rfl | rfl | rfl | rfl <;> omega
 | sta L p to e =>
  simp only [Fr.L, Fr.p, Fr.nd, Fr.e] at *
  refine ⟨fun n hn => ?_, fun n hn => absurd hn (by simp [msgF]), by show (1 : Int) ≤ 3 ∧ (3 : Int) ≤ 4; omega, by show (0 : Nat) ≤ 8; omega⟩
  simp only [ten, msgF, List.mem_cons, List.not_mem_nil, or_false] at hn
  rcases p2 with p2 | p2 <;> rcases hn with rfl | rfl | rfl | rfl | rfl | rfl | rfl | rfl | rfl | rfl <;> omega
def sendB (b : List Str) (s : Str) : List Str := if b.length < 200 then b ++ [s] else b
theorem bput_eq (b : List Str) (s : Str) (h : b.length ≤ 200) : bag_Put b s = some (sendB b s) := by
 unfold bag_Put sendB slices_Clone_string
 rw [clone_eq (by omega)]
 by_cases hb : b.length < 200
 ·rw [if_pos hb]
  exact bd_s rfl (bif_t (by omega) (cb_t (lim_t (by simp; omega)) rfl))
 ·rw [if_neg hb]
  exact bd_s rfl (bif_f (by omega) rfl)
theorem send_eq (f : FleetFleet) {a : ApiMsg} (h : okMsg a) (hb : f.bag.length ≤ 200) : fleet_Fleet_send f a = some { f with bag := sendB f.bag (putS a) } := by
 unfold fleet_Fleet_send
 exact bd_s (put_eq h) (cb_t rfl (bd_s (bput_eq _ _ hb) rfl))
def sendL (m : ApiModel) (ts0 : List (List Int)) (b : List Str) (l : List Fr) : List Str := l.foldl (fun b x => sendB b (str m ts0 x)) b
theorem sendL_eq : ∀ (l frs : List Fr), frs.length ≤ 200 → sendL m ts0 (frs.map (str m ts0)) l = (frs ++ l.take (200 - frs.length)).map (str m ts0)
 | [], frs, _ => by simp [sendL]
 | x :: l, frs, h => by
  have e : sendL m ts0 (frs.map (str m ts0)) (x :: l) = sendL m ts0 (sendB (frs.map (str m ts0)) (str m ts0 x)) l := rfl
  rw [e, sendB]
  by_cases hb : (frs.map (str m ts0)).length < 200
  ·rw [if_pos hb]
   have e2 : frs.map (str m ts0) ++ [str m ts0 x] = (frs ++ [x]).map (str m ts0) := by simp
   simp at hb
   rw [e2, sendL_eq l (frs ++ [x]) (by simp; omega)]
   have e3 : 200 - frs.length = (200 - (frs ++ [x]).length) + 1 := by simp; omega
   rw [e3, List.take_succ_cons]; simp
  ·rw [if_neg hb]
   simp at hb
   rw [sendL_eq l frs h]
   have e3 : 200 - frs.length = 0 := by omega
   rw [e3]; simp
/-! ### ledgers -/
def entOk (m : ApiModel) (ts0 : List (List Int)) (x : LedgerEntry) : Prop := ∃ L p, L < m.Layers.length ∧ p ∈ PM m ts0 L ∧ x = ⟨⟨1, (L : Int), p.Token, p.Rank⟩, VM m ts0 L p⟩
def ledOk (m : ApiModel) (ts0 : List (List Int)) (l : List LedgerEntry) : Prop := (∀ x ∈ l, entOk m ts0 x) ∧ l.Pairwise (fun a b => a.Key ≠ b.Key)
theorem pigeon : ∀ (N : Nat) (l : List Nat), l.Nodup → (∀ x ∈ l, x < N) → l.length ≤ N
 | 0, l, _, h => by cases l with | nil => simp | cons x l => have := h x (by simp); omega
 | N + 1, l, hn, h => by
  by_cases hm : N ∈ l
  ·have h1 := pigeon N (l.erase N) (hn.erase N) (fun x hx => by
    have h2 := (List.Nodup.mem_erase_iff hn).1 hx
    have := h x h2.2; have := h2.1; omega)
   have := List.length_erase_of_mem hm; omega
  ·have := pigeon N l hn (fun x hx => by
    have := h x hx
    have : x ≠ N := fun e => hm (e ▸ hx)
    omega)
   omega
def keyN (T : Nat) (k : LedgerKey) : Nat := (k.Layer.toNat * T + k.Token.toNat) * 2 + k.Rank.toNat
theorem mul_uniq {T a b c e : Nat} (hb : b < T) (he : e < T) (h : a * T + b = c * T + e) : a = c ∧ b = e := by
 have h1 : (a * T + b) / T = a := by rw [Nat.mul_comm, Nat.mul_add_div (by omega), Nat.div_eq_of_lt hb]; omega
 have h2 : (c * T + e) / T = c := by rw [Nat.mul_comm, Nat.mul_add_div (by omega), Nat.div_eq_of_lt he]; omega
 have : a = c := by rw [← h1, ← h2, h]
 subst this; omega
theorem led_len {l : List LedgerEntry} (h : ledOk m ts0 l) : l.length ≤ m.Layers.length * ts0.length * 2 := by
 have hnd : (l.map (fun x => keyN ts0.length x.Key)).Nodup := by
  rw [List.Nodup, List.pairwise_map]
  refine List.Pairwise.imp_of_mem (fun {a b} ha hb hab e => hab ?_) h.2
  obtain ⟨L, p, h1, h2, rfl⟩ := h.1 a ha
  obtain ⟨L', p', h1', h2', rfl⟩ := h.1 b hb
  obtain ⟨q1, q2, _⟩ := PM_ok h2
  obtain ⟨r1, r2, _⟩ := PM_ok h2'
  simp only [keyN] at e
  have hr : p.Rank.toNat = p'.Rank.toNat ∧ ((L : Int).toNat * ts0.length + p.Token.toNat) = ((L' : Int).toNat * ts0.length + p'.Token.toNat) := by
   rcases q2 with q2 | q2 <;> rcases r2 with r2 | r2 <;> rw [q2, r2] at e <;> rw [q2, r2] <;> simp at e ⊢ <;> omega
  have hu := mul_uniq (by omega) (by omega) hr.2
  have e1 : L = L' := by have := hu.1; simpa using this
  have e2 : p.Token = p'.Token := by have := hu.2; omega
  have e3 : p.Rank = p'.Rank := by have := hr.1; rcases q2 with q2 | q2 <;> rcases r2 with r2 | r2 <;> rw [q2, r2] at this ⊢ <;> simp at this
  show (⟨1, (L : Int), p.Token, p.Rank⟩ : LedgerKey) = ⟨1, (L' : Int), p'.Token, p'.Rank⟩
  rw [e1, e2, e3]
 have := pigeon (m.Layers.length * ts0.length * 2) _ hnd (fun n hn => by
  obtain ⟨x, hx, rfl⟩ := List.mem_map.1 hn
  obtain ⟨L, p, h1, h2, rfl⟩ := h.1 x hx
  obtain ⟨q1, q2, _⟩ := PM_ok h2
  simp only [keyN, Int.toNat_natCast]
  have h3 : (L + 1) * ts0.length ≤ m.Layers.length * ts0.length := Nat.mul_le_mul_right _ h1
  rw [Nat.add_mul] at h3
  rcases q2 with q2 | q2 <;> rw [q2] <;> simp <;> omega)
 simpa using this
/-! ### a fleet -/
structure WInv (m : ApiModel) (ts0 : List (List Int)) (f : FleetFleet) (A : Nat) (frs : List Fr) : Prop where
 fm : f.m = m
 pl : plP f.p
 ph : ∀ l ∈ m.Layers, l.Experts.length ≤ f.p.Holders.length
 lg : f.ledgers.length = 5
 lok : ∀ l ∈ f.ledgers, ledOk m ts0 l
 l0 : at0 f.ledgers 0 = []
 bg : f.bag = frs.map (str m ts0)
 bok : ∀ x ∈ frs, okFr m ts0 x
 b200 : frs.length ≤ 200
 fat : f.at_ = (A : Int)
 an : A ≤ m.Layers.length
 tok : f.tokens = tk m ts0 A
 prt : A < m.Layers.length → f.parts = PM m ts0 A ∧ f.answers.length = (PM m ts0 A).length ∧ f.answered.length = (PM m ts0 A).length ∧ ∀ i : Nat, i < (PM m ts0 A).length → at0 f.answered (i : Int) = true → at0 f.answers (i : Int) = VM m ts0 A (at0 (PM m ts0 A) (i : Int))
def askFr (f : FleetFleet) (A : Nat) (p : ModelPart) : Fr := .ask A p (pickTo f.p p.Expert (p.Token + p.Rank)) f.p.Epoch
def asksL (f : FleetFleet) (A : Nat) : List ModelPart → Nat → List Fr
 | [], _ => []
 | p :: ps, i => if at0 f.answered (i : Int) = true then asksL f A ps (i + 1) else askFr f A p :: asksL f A ps (i + 1)
/-- What an ask needs. -/
structure Asks (m : ApiModel) (ts0 : List (List Int)) (f : FleetFleet) (A : Nat) : Prop where
 fm : f.m = m
 pl : plP f.p
 ph : ∀ l ∈ m.Layers, l.Experts.length ≤ f.p.Holders.length
 fat : f.at_ = (A : Int)
 alt : A < m.Layers.length
 tok : f.tokens = tk m ts0 A
 prt : f.parts = PM m ts0 A
 adl : f.answered.length = (PM m ts0 A).length
theorem Asks.fr (C : Ctx m ts0 d) {f : FleetFleet} {A : Nat} (h : Asks m ts0 f A) {p : ModelPart} (hp : p ∈ PM m ts0 A) : okFr m ts0 (askFr f A p) ∧ place_Pick f.p p.Expert (p.Token + p.Rank) = some (pickTo f.p p.Expert (p.Token + p.Rank), true) ∧ pickTo f.p p.Expert (p.Token + p.Rank) ∈ at0 f.p.Holders p.Expert := by
 obtain ⟨q1, q2, q3⟩ := PM_ok hp
 have hl := h.ph _ (at0_mem (xs := m.Layers) (i := (A : Int)) (by omega) (by have := h.alt; omega))
 obtain ⟨e1, e2, e3⟩ := pick_eq h.pl (x := p.Expert) (k := p.Token + p.Rank) q3.1 (by omega) (by omega)
 exact ⟨⟨h.alt, hp, e3, h.pl.2.1⟩, e1, e2⟩
theorem ask_l1 (C : Ctx m ts0 d) {f : FleetFleet} {A : Nat} (h : Asks m ts0 f A) : ∀ (ps : List ModelPart) (i : Nat) (b : List Fr), i + ps.length = (PM m ts0 A).length → (∀ p ∈ ps, p ∈ PM m ts0 A) → b.length ≤ 200 →
  fleet_Fleet_Ask_l1 ps i { f with bag := b.map (str m ts0) } = some { f with bag := sendL m ts0 (b.map (str m ts0)) (asksL f A ps i) }
 | [], i, b, _, _, _ => by rw [fleet_Fleet_Ask_l1]; rfl
 | p :: ps, i, b, hi, hp, hb => by
  have hpp := hp p (by simp)
  obtain ⟨q1, q2, q3⟩ := PM_ok hpp
  have h16 := C.t16
  obtain ⟨k1, k2, k3⟩ := h.fr C hpp
  have hal := h.adl
  rw [fleet_Fleet_Ask_l1, asksL]
  refine cb_t (inb_nat (by simp at hi; show i < f.answered.length; omega)) ?_
  cases ha : at0 f.answered (i : Int) with
  | true =>
   rw [if_pos rfl]
   refine cb_t rfl ?_
   exact ask_l1 C h ps (i + 1) b (by simp at hi; omega) (fun q hq => hp q (by simp [hq])) hb
  | false =>
   rw [if_neg (by simp)]
   refine cb_f rfl ?_
   have ew : i64w (p.Token + p.Rank) = p.Token + p.Rank := i64w_eq (by omega) (by omega)
   rw [ew]
   refine bd_s k2 (cb_t ?_ ?_)
   ·show inb p.Token f.tokens.length = true
    rw [h.tok, tk_len]; simp [inb]; omega
   ·have hm : (⟨1, 0, pickTo f.p p.Expert (p.Token + p.Rank), 0, 1, f.at_, p.Token, p.Rank, p.Expert, f.p.Epoch, at0 f.tokens p.Token⟩ : ApiMsg) = msgF m ts0 (askFr f A p) := by
     rw [h.fat, h.tok]; rfl
    show (fleet_Fleet_send { f with bag := b.map (str m ts0) } (⟨1, 0, pickTo f.p p.Expert (p.Token + p.Rank), 0, 1, f.at_, p.Token, p.Rank, p.Expert, f.p.Epoch, at0 f.tokens p.Token⟩ : ApiMsg)).bind _ = _
    rw [hm]
    refine bd_s (send_eq _ (msg_ok C k1) (by show (b.map (str m ts0)).length ≤ 200; simpa using hb)) ?_
    have e1 : sendB (b.map (str m ts0)) (putS (msgF m ts0 (askFr f A p))) = sendL m ts0 (b.map (str m ts0)) [askFr f A p] := rfl
    have e2 := sendL_eq (m := m) (ts0 := ts0) [askFr f A p] b hb
    show fleet_Fleet_Ask_l1 ps (i + 1) { f with bag := sendB (b.map (str m ts0)) (putS (msgF m ts0 (askFr f A p))) } = _
    rw [e1, e2]
    rw [ask_l1 C h ps (i + 1) _ (by simp at hi; omega) (fun q hq => hp q (by simp [hq])) (by simp; omega), ← e2]
    rfl
theorem ask_eq (C : Ctx m ts0 d) {f : FleetFleet} {A : Nat} (h : Asks m ts0 f A) {b : List Fr} (hb : f.bag = b.map (str m ts0)) (hl : b.length ≤ 200) : fleet_Fleet_Ask f = some { f with bag := (b ++ (asksL f A (PM m ts0 A) 0).take (200 - b.length)).map (str m ts0) } := by
 unfold fleet_Fleet_Ask
 refine bif_f ?_ ?_
 ·rw [h.fm, h.fat]; have := h.alt; omega
 ·have e : f = { f with bag := b.map (str m ts0) } := by rw [← hb]
  have := ask_l1 C h (PM m ts0 A) 0 b (by omega) (fun p hp => hp) hl
  rw [← e] at this
  rw [sendL_eq _ _ hl] at this
  exact bd_s ((congrArg (fun z => fleet_Fleet_Ask_l1 z 0 f) h.prt).trans this) rfl
end
end Go.Sw.FL

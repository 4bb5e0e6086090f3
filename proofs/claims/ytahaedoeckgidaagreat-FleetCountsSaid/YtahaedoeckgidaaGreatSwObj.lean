/- Objects: variables that own rows; calls that are handed several things; make; maps; equality of structures and of pointers. -/
import Derived.Test.YtahaedoeckgidaaGreatSwCut
import Derived.Laws.StructEq
import Derived.Laws.MakeOwn
set_option linter.unusedVariables false
set_option linter.unusedSimpArgs false
namespace Go.Sw
/-! ### several of the caller's own handed on -/
def renum (j : Nat) : List (Nat × Own) → List (Nat × Own)
  | [] => []
  | x :: l => (j, x.2) :: renum (j + 1) l
def back (O O' : OHeap) (j : Nat) : List (Nat × Own) → OHeap
  | [] => O
  | x :: l => oup (back O O' (j + 1) l) x.1 (O' j)
def blocks (l : List (Nat × Own)) : List Nat := l.flatMap (·.2.ids)
def names (l : List (Nat × Own)) : List Nat := l.map (·.1)
theorem renum_lookup : ∀ {l : List (Nat × Own)} {j i : Nat} {p : Own}, (renum j l).lookup i = some p → ∃ q, j ≤ i ∧ l[i - j]? = some (q, p)
  | [], j, i, p, h => by cases h
  | x :: l, j, i, p, h => by
    simp only [renum, List.lookup] at h
    split at h
    · next e =>
      have : i = j := by simpa using e
      subst this
      simp only [Option.some.injEq] at h
      subst h
      exact ⟨x.1, Nat.le_refl _, by simp⟩
    · next e =>
      obtain ⟨q, h1, h2⟩ := renum_lookup h
      refine ⟨q, by omega, ?_⟩
      rw [show i - j = (i - (j + 1)) + 1 from by omega]
      simpa using h2
theorem allIn_get {O : OHeap} : ∀ {l : List (Nat × Own)}, allIn O l → ∀ {i q : Nat} {p : Own}, l[i]? = some (q, p) → O q = some p
  | [], _, i, q, p, h => by simp at h
  | x :: l, ha, 0, q, p, h => by simp at h; subst h; exact ha.1
  | x :: l, ha, i + 1, q, p, h => allIn_get ha.2 (by simpa using h)
theorem names_inj {l : List (Nat × Own)} (h : (names l).Nodup) {i j q : Nat} {p s : Own} (hi : l[i]? = some (q, p)) (hj : l[j]? = some (q, s)) : i = j := by
  have h1 : (names l)[i]? = some q := by simp [names, hi]
  have h2 : (names l)[j]? = some q := by simp [names, hj]
  obtain ⟨hlt, h3⟩ := List.getElem?_eq_some_iff.1 h1
  obtain ⟨hlt2, h4⟩ := List.getElem?_eq_some_iff.1 h2
  have hp := List.pairwise_iff_getElem.1 h
  rcases Nat.lt_trichotomy i j with hlt3 | rfl | hlt3
  · exact absurd (h3.trans h4.symm) (hp i j hlt hlt2 hlt3)
  · rfl
  · exact absurd (h4.trans h3.symm) (hp j i hlt2 hlt hlt3)
theorem names_nd {l : List (Nat × Own)} {ns : List Nat} (h : names l = ns) (hn : ns.Nodup) : (names l).Nodup := h ▸ hn
theorem mem_blocks {l : List (Nat × Own)} {g : Nat} : g ∈ blocks l ↔ ∃ (i q : Nat) (p : Own), l[i]? = some (q, p) ∧ g ∈ p.ids := by
  unfold blocks
  rw [List.mem_flatMap]
  constructor
  · rintro ⟨x, hx, hg⟩
    obtain ⟨i, hi⟩ := List.getElem?_of_mem hx
    exact ⟨i, x.1, x.2, hi, hg⟩
  · rintro ⟨i, q, p, hi, hg⟩
    exact ⟨(q, p), List.mem_of_getElem? hi, hg⟩
theorem back_spec {O O' : OHeap} : ∀ {l : List (Nat × Own)} {j i : Nat} {q : Own}, back O O' j l i = some q → (∃ a p, l[a]? = some (i, p) ∧ O' (j + a) = some q) ∨ (i ∉ names l ∧ O i = some q)
  | [], j, i, q, h => .inr ⟨by simp [names], h⟩
  | x :: l, j, i, q, h => by
    simp only [back] at h
    by_cases hx : x.1 = i
    · rw [hx, oup_same] at h
      exact .inl ⟨0, x.2, by simp [← hx], h⟩
    · rw [oup_ne _ _ hx] at h
      rcases back_spec h with ⟨a, p, h1, h2⟩ | ⟨h1, h2⟩
      · exact .inl ⟨a + 1, p, by simpa using h1, by rw [show j + (a + 1) = j + 1 + a from by omega]; exact h2⟩
      · refine .inr ⟨?_, h2⟩
        simp only [names, List.map_cons, List.mem_cons, not_or]
        exact ⟨fun e => hx e.symm, h1⟩
section
variable {w0 : World} {H0 : IHeap} {M0 : List Nat} {H : IHeap} {O : OHeap} {w : World}
theorem St.enterL (h : St w0 H0 M0 H O w) (l : List (Nat × Own)) (hl : allIn O l) (hn : (names l).Nodup) : St w H (blocks l) H (ol (renum 0 l)) w := by
  refine ⟨h.sub, Le.refl _, fun b o e => .inl e, fun j q hj => ?_, fun j q g hj hg => ?_, fun j i q s g hj hi hq hs => ?_, fun _ _ _ => rfl, Nat.le_refl _, rfl, rfl, rfl⟩
  · obtain ⟨k, _, h2⟩ := renum_lookup hj
    exact h.ok k q (allIn_get hl h2)
  · obtain ⟨k, _, h2⟩ := renum_lookup hj
    exact ⟨(h.own k q g (allIn_get hl h2) hg).1, .inl (mem_blocks.2 ⟨_, k, q, h2, hg⟩)⟩
  · obtain ⟨k, a1, h2⟩ := renum_lookup hj
    obtain ⟨k', a2, h3⟩ := renum_lookup hi
    have : k = k' := h.nd k k' q s g (allIn_get hl h2) (allIn_get hl h3) hq hs
    subst this
    have := names_inj hn h2 h3
    omega
theorem St.callL {w' : World} {H' : IHeap} {O' : OHeap} (h : St w0 H0 M0 H O w) (l : List (Nat × Own)) (hl : allIn O l) (hn : (names l).Nodup) (hc : St w H (blocks l) H' O' w') : St w0 H0 M0 H' (back O O' 0 l) w' := by
  have hfr : ∀ b, b < w.heap.size → b ∉ blocks l → w'.heap[b]? = w.heap[b]? := fun b hb hn => hc.fr b hb hn
  have hne : ∀ j q g, j ∉ names l → O j = some q → g ∈ q.ids → g ∉ blocks l := fun j q g hj hq hg hb => by
    obtain ⟨i, k, p, h1, h2⟩ := mem_blocks.1 hb
    have := h.nd k j p q g (allIn_get hl h1) hq h2 hg
    subst this
    exact hj (List.mem_map.2 ⟨(k, p), List.mem_of_getElem? h1, rfl⟩)
  have hbl : ∀ g, g ∈ blocks l → g ∈ M0 ∨ w0.heap.size ≤ g := fun g hb => by
    obtain ⟨i, k, p, h1, h2⟩ := mem_blocks.1 hb
    exact (h.own k p g (allIn_get hl h1) h2).2
  refine ⟨hc.sub, h.le.trans hc.le, fun b o e => ?_, fun j q hj => ?_, fun j q g hj hg => ?_, fun j i q s g hj hi hq hs => ?_, fun b hb hn => ?_, Nat.le_trans h.sz hc.sz, hc.os.trans h.os, hc.tape.trans h.tape, hc.output.trans h.output⟩
  · rcases hc.new_ b o e with h1 | h1 | h1
    · exact h.new_ b o h1
    · exact .inr (.inl (Nat.le_trans h.sz h1))
    · rcases hbl b h1 with hm | hm
      · exact .inr (.inr hm)
      · exact .inr (.inl hm)
  · rcases back_spec hj with ⟨a, p, h1, h2⟩ | ⟨h1, h2⟩
    · exact hc.ok _ q h2
    · exact Own.ok_same (h.ok j q h2) fun g hg => hfr g (Own.lt (h.ok j q h2) hg) (hne j q g h1 h2 hg)
  · rcases back_spec hj with ⟨a, p, h1, h2⟩ | ⟨h1, h2⟩
    · refine ⟨(hc.own _ q g h2 hg).1, ?_⟩
      rcases (hc.own _ q g h2 hg).2 with h3 | h3
      · exact hbl g h3
      · exact .inr (Nat.le_trans h.sz h3)
    · refine ⟨?_, (h.own j q g h2 hg).2⟩
      cases hh : H' g with
      | none => rfl
      | some o =>
        have hlt := Own.lt (h.ok j q h2) hg
        rcases hc.new_ g o hh with h3 | h3 | h3
        · rw [(h.own j q g h2 hg).1] at h3; cases h3
        · omega
        · exact absurd h3 (hne j q g h1 h2 hg)
  · have key : ∀ (a i' : Nat) (s' q' : Own), O' a = some s' → i' ∉ names l → O i' = some q' → g ∈ s'.ids → g ∈ q'.ids → False := fun a i' s' q' h1 h2 h3 h4 h5 => by
      rcases (hc.own a s' g h1 h4).2 with hm | hm
      · exact hne i' q' g h2 h3 h5 hm
      · have := Own.lt (h.ok i' q' h3) h5
        omega
    rcases back_spec hj with ⟨a, p, h1, h2⟩ | ⟨h1, h2⟩
    · rcases back_spec hi with ⟨b, p', h3, h4⟩ | ⟨h3, h4⟩
      · have := hc.nd _ _ q s g h2 h4 hq hs
        have hab : a = b := by omega
        subst hab
        rw [h1] at h3
        simp only [Option.some.injEq, Prod.mk.injEq] at h3
        exact h3.1
      · exact (key _ i q s h2 h3 h4 hq hs).elim
    · rcases back_spec hi with ⟨b, p', h3, h4⟩ | ⟨h3, h4⟩
      · exact (key _ j s q h4 h1 h2 hs hq).elim
      · exact h.nd j i q s g h2 h4 hq hs
  · rw [hfr b (Nat.lt_of_lt_of_le hb h.sz) (fun hp => ?_), h.fr b hb hn]
    rcases hbl b hp with hm | hm
    · exact hn hm
    · omega
/-- What came back, named. -/
def backQ (O : OHeap) : List (Nat × Own) → List Own → OHeap
  | x :: l, q :: qs => oup (backQ O l qs) x.1 (some q)
  | _, _ => O
def cameBack (O' : OHeap) (j : Nat) : List (Nat × Own) → List Own → Prop
  | [], [] => True
  | _ :: l, q :: qs => O' j = some q ∧ cameBack O' (j + 1) l qs
  | _, _ => False
theorem back_eq {O' : OHeap} : ∀ {l : List (Nat × Own)} {qs : List Own} {j : Nat}, cameBack O' j l qs → back O O' j l = backQ O l qs
  | [], [], _, _ => rfl
  | x :: l, q :: qs, j, h => by simp only [back, backQ, h.1, back_eq h.2]
  | [], _ :: _, _, h => h.elim
  | _ :: _, [], _, h => h.elim
theorem St.named {w' : World} {H' : IHeap} {O' : OHeap} {l : List (Nat × Own)} (h : St w0 H0 M0 H' (back O O' 0 l) w') (qs : List Own) (hq : cameBack O' 0 l qs) : St w0 H0 M0 H' (backQ O l qs) w' := by rw [← back_eq hq]; exact h
end
section
variable {P : Program} {n : Nat} {N R : Cont} {r : Regs} {w : World} {ops : Array Oper} {rest : List Oper} {d : Nat} {dst : Option Tmp} {gd : Option (Nat × Bool)} {ty : TypeId} {pos : String} {after : Array Edge}
variable {w0 : World} {H0 : IHeap} {M0 : List Nat} {H : IHeap} {O : OHeap}
theorem o_callL {f : FuncId} {az : Array Operand} {ts : Array TypeId} {args : List Value} {Φ : IHeap → OHeap → Value → Prop} (l : List (Nat × Own)) (hO : St w0 H0 M0 H O w) (hl : allIn O l) (hn : (names l).Nodup) (hg : isGo P f = true) (hc : OkM P f args.toArray w H (blocks l) Φ) (ha : az.toList.map (rv r) = args)
    (hk : ∀ v H' O' w', Le H H' → Φ H' O' v → St w0 H0 M0 H' (back O O' 0 l) w' → WL P n ops rest N (upd r d v) w') (hd : Nat.blt d n = true := by rfl) :
    WL P n ops (⟨some d, .call ⟨.value (.func f), az, ts⟩, ty, pos, after, none⟩ :: rest) N r w := by
  have hmap : az.map (rv r) = args.toArray := by rw [← ha]; apply Array.ext'; simp
  refine WL.op (fun v w' => ∃ H' O', Le H H' ∧ Φ H' O' v ∧ St w0 H0 M0 H' (back O O' 0 l) w') ?_ (fun v w' ⟨H', O', h1, h2, h3⟩ => hk v H' O' w' h1 h2 h3) hd
  unfold Does
  simp only [execOp, resolve, Deferred.ofValue, rv, hmap, Sem.run_bind, Sem.run_pure, Result.andThen_ok, invoke, run_callFunc hg]
  simp only [List.append_toArray, List.nil_append, Array.append_empty, Array.empty_append]
  refine Calls.mono hc fun e w' ⟨v, he, H', O', hΦ, hst⟩ => ⟨v, he, H', O', hst.le, hΦ, hO.callL l hl hn hst⟩
/-! ### parts of a variable that lead to what it owns -/
def eRaw (v : Value) : Enc Unit where
  size := 1
  rep _ cs _ := cs = [v] ∧ v.oneCell' = true
  len := by rintro H cs x ⟨rfl, _⟩; rfl
  one := by rintro H cs x ⟨rfl, h⟩ u hu; simp at hu; subst hu; exact h
  mono := by rintro H H' cs x hl h; exact h
def Swap {α : Type} (e e' : Enc α) (off : Nat) (v v' : Value) : Prop := ∀ H cs x, e.rep H cs x → cs[off]? = some v ∧ (v'.oneCell' = true → e'.rep H (cs.set off v') x)
theorem Swap.here {β : Type} (v v' : Value) (b : Enc β) : Swap (ePair (eRaw v) b) (ePair (eRaw v') b) 0 v v' := by
  rintro H cs x ⟨c1, c2, rfl, ⟨rfl, h1⟩, h2⟩
  exact ⟨rfl, fun h => ⟨[v'], c2, rfl, ⟨rfl, h⟩, h2⟩⟩
theorem Swap.there {α β : Type} (a : Enc α) {b b' : Enc β} {off : Nat} {v v' : Value} (h : Swap b b' off v v') : Swap (ePair a b) (ePair a b') (a.size + off) v v' := by
  rintro H cs x ⟨c1, c2, rfl, h1, h2⟩
  have hl := a.len h1
  obtain ⟨h3, h4⟩ := h H c2 _ h2
  refine ⟨by rw [List.getElem?_append_right (by omega), hl, Nat.add_sub_cancel_left]; exact h3, fun hv => ⟨c1, c2.set off v', ?_, h1, h4 hv⟩⟩
  rw [List.set_append_right _ _ (by omega), hl, Nat.add_sub_cancel_left]
theorem Swap.iso {α β : Type} {e e' : Enc α} {off : Nat} {v v' : Value} (h : Swap e e' off v v') (f : β → α) : Swap (eIso e f) (eIso e' f) off v v' := fun H cs x hr => h H cs (f x) hr
theorem Swap.comp {α β : Type} {e e' : Enc α} {off off2 : Nat} {a a' : Enc β} {f : α → β} {v v' : Value} (h : ∀ H cs x, e.rep H cs x → ∃ ecs, a.rep H ecs (f x) ∧ (∀ i u, ecs[i]? = some u → cs[off + i]? = some u) ∧ ∀ us, a'.rep H us (f x) → e'.rep H (splice cs off us) x) (h2 : Swap a a' off2 v v') :
    ∀ H cs x, e.rep H cs x → cs[off + off2]? = some v := fun H cs x hr => by
  obtain ⟨ecs, h3, h4, _⟩ := h H cs x hr
  exact h4 _ _ (h2 H ecs _ h3).1
/-- The register's value is a slice of as many as there are now. -/
theorem o_stRaw {α : Type} {e e' : Enc α} {off g : Nat} {cs : List Value} {T : TypeId} {x : α} {t : TypeId} {X Y : Operand} (k : Nat) (v v' : Value) (hO : St w0 H0 M0 H O w) (hk' : O k = some (.blk g cs T)) (hr : e.rep H cs x) (hs : Swap e e' off v v') (h1 : v'.oneCell' = true)
    (hx : rv r X = .pointer (some ⟨g, off, none⟩)) (hy : rv r Y = v') (ht : tySize P t = some 1)
    (hk : ∀ cs' w', e'.rep H cs' x → St w0 H0 M0 H (oup O k (some (.blk g cs' T))) w' → WL P n ops rest N r w') :
    WL P n ops (⟨none, .store t X Y, ty, pos, after, none⟩ :: rest) N r w := by
  obtain ⟨h2, h3⟩ := hs H cs x hr
  exact o_st k v' hO hk' hx hy h2 ht h1 (fun w' hO' => hk _ _ (h3 h1) hO')
/-! ### make -/
def mkOk (n : Int) : Bool := decide (0 ≤ n) && decide (n ≤ 1000000000)
theorem madeRow {α : Type} {en : Enc α} {zs : List Value} {z : α} (hz : en.rep H zs z) (hp : 0 < en.size) (m : Nat) : (madeCells zs.toArray (m * en.size)).toList.length = m * en.size ∧ Rows en H (madeCells zs.toArray (m * en.size)).toList (List.replicate m z) ∧ ∀ v ∈ (madeCells zs.toArray (m * en.size)).toList, v.oneCell' = true := by
  have hl := en.len hz
  have hlen : (madeCells zs.toArray (m * en.size)).toList.length = m * en.size := by rw [Array.length_toList, size_madeCells]
  have hat : ∀ j, j < m * en.size → (madeCells zs.toArray (m * en.size)).toList[j]? = zs[j % en.size]? := fun j hj => by
    have hm : j % en.size < zs.length := by rw [hl]; exact Nat.mod_lt _ hp
    rw [Array.getElem?_toList]
    simp [madeCells, hj, hl, List.getElem?_eq_getElem hm]
  refine ⟨hlen, ⟨by rw [hlen]; simp, fun j x hj => ?_⟩, fun v hv => ?_⟩
  · rw [List.getElem?_replicate] at hj
    split at hj
    · next hjm =>
      simp only [Option.some.injEq] at hj
      subst hj
      refine ⟨zs, hz, fun i v hv => ?_⟩
      have hi : i < en.size := by rw [← hl]; exact (List.getElem?_eq_some_iff.1 hv).1
      have : (j + 1) * en.size ≤ m * en.size := Nat.mul_le_mul_right _ hjm
      rw [Nat.succ_mul] at this
      rw [hat _ (by omega), Nat.add_comm, Nat.add_mul_mod_self_right, Nat.mod_eq_of_lt hi]; exact hv
    · cases hj
  · obtain ⟨j, hj⟩ := List.getElem?_of_mem hv
    have hlt := (List.getElem?_eq_some_iff.1 hj).1
    rw [hat j (by omega)] at hj
    exact en.one hz v (List.mem_of_getElem? hj)
theorem o_make {α ρ : Type} {en : Enc α} {B : Option ρ} {res : ρ} {t e : TypeId} {bytes : Nat} {zs : List Value} {x y : Operand} {kx : IntKind} {m : Int} (k : Nat) (z : α) (hO : St w0 H0 M0 H O w) (hi : slInfo P t = some (e, en.size, bytes, zs)) (hz : en.rep H zs z) (hby : Nat.ble bytes 16384 = true)
    (hx : rv r x = .int kx m) (hy : rv r y = .int kx m) (hm : (bif mkOk m then B else none) = some res)
    (hk : ∀ g cells w', Rows en H cells (List.replicate m.toNat z) → St w0 H0 M0 H (oup O k (some (.row (some ⟨g, 0, none⟩) m.toNat e en.size (List.replicate m.toNat z).length cells))) w' → B = some res → WL P n ops rest N (upd r d (.slice (some ⟨g, 0, none⟩) (List.replicate m.toNat z).length m.toNat)) w') (hd : Nat.blt d n = true := by rfl) :
    WL P n ops (⟨some d, .makeSlice t x y, ty, pos, after, none⟩ :: rest) N r w := by
  obtain ⟨hm0, hm⟩ := chk hm
  obtain ⟨hut, i, zv, hinf, hzv, hsz, hbi, hcz, hzl, hpos⟩ := slInfo_spec hi
  simp [mkOk] at hm0
  have hb : bytes ≤ 16384 := Nat.le_of_ble_eq_true hby
  have hmul : (i.bytes : Int) * m ≤ 281474976710656 := by
    have h1 : (i.bytes : Int) ≤ 16384 := by omega
    have : (i.bytes : Int) * m ≤ 16384 * 1000000000 := Int.mul_le_mul h1 hm0.2 hm0.1 (by omega)
    omega
  have hrun := run_make (P := P) w t e i zv hut hinf hzv kx kx m m hm0.1 (Int.le_refl _) hmul (by omega)
  obtain ⟨h1, h2, h3⟩ := madeRow (H := H) (en := en) (zs := zs) (z := z) hz hpos m.toNat
  have hcells : zv.cells = zs.toArray := by rw [← hcz]; simp [cl]
  have hmn : m.toNat ≤ maxLen := by simp only [maxLen]; omega
  have hst := hO.newRow k _ e h1 h3 hmn
  rw [hcells, hsz] at hrun
  refine WL.op (fun v w' => v = .slice (some ⟨w.heap.size, 0, none⟩) m.toNat m.toNat ∧ w' = w.alloc (.cells (madeCells zs.toArray (m.toNat * en.size)) e)) (Does.val (v := .slice (some ⟨w.heap.size, 0, none⟩) m.toNat m.toNat) (by simp only [execOp, hx, hy, Sem.run_bind, hrun]; simp) ⟨rfl, rfl⟩)
    (fun v w' ⟨h4, h5⟩ => by
      subst h4; subst h5
      have := hk w.heap.size _ _ h2 (by simpa using hst) hm
      simpa using this) hd
/-! ### equality -/
def stInts (P : Program) (t : TypeId) : Option Nat :=
  match P.underlying t with
  | some (.struct fs) => if P.stoodInHeld t = false ∧ P.eqGuardType P.depth t = false ∧
    fs.toList.mapIdx (fun i f => f.offset == i && f.name != "_" && (match P.underlying f.type with | some (.int _) => true | _ => false)) = fs.toList.map (fun _ => true) then some fs.size else none
  | _ => none
def ieqs : List Int → List Int → Bool
  | a :: xs, b :: ys => (a == b) && ieqs xs ys
  | _, _ => true
theorem run_part_int {fs : List Value} {t : TypeId} {k k' : IntKind} {i : Nat} {a : Int} (ht : P.underlying t = some (.int k')) (h : fs[i]? = some (.int k a)) : (part t fs.toArray i).run P w = .ok (.int k a) w := by
  have hone : tyOne P t = true := by simp [tyOne, ht]
  unfold part
  simp only [Sem.run_bind, run_isAgg_one hone, Result.andThen_ok]
  simp [h]
theorem run_eqFields {d : Nat} {q : IntKind} : ∀ (fs : List Field) (j : Nat) (xs ys : List Value) (us bs : List Int),
    fs.mapIdx (fun i f => f.offset == j + i && f.name != "_" && (match P.underlying f.type with | some (.int _) => true | _ => false)) = fs.map (fun _ => true) → fs.length = us.length → fs.length = bs.length →
    (∀ i a, us[i]? = some a → xs[j + i]? = some (.int q a)) → (∀ i b, bs[i]? = some b → ys[j + i]? = some (.int q b)) → (Op.eqFields (d + 1) xs.toArray ys.toArray fs).run P w = .ok (ieqs us bs) w
  | [], j, xs, ys, us, bs, _, h1, h2, _, _ => by
    cases us with
    | nil => simp [Op.eqFields, ieqs]
    | cons _ _ => simp at h1
  | f :: fs, j, xs, ys, [], bs, _, h1, _, _, _ => by simp at h1
  | f :: fs, j, xs, ys, a :: us, [], _, _, h2, _, _ => by simp at h2
  | f :: fs, j, xs, ys, a :: us, b :: bs, h, h1, h2, hx, hy => by
    simp only [List.mapIdx_cons, List.map_cons, List.cons.injEq, Bool.and_eq_true, bne_iff_ne, ne_eq, beq_iff_eq, Nat.add_zero] at h
    obtain ⟨⟨⟨ho, hnm⟩, hty⟩, hrest⟩ := h
    have hxa := hx 0 a rfl
    have hyb := hy 0 b rfl
    rw [Nat.add_zero] at hxa hyb
    have hu : ∃ k, P.underlying f.type = some (.int k) := by
      cases hu : P.underlying f.type with
      | none => rw [hu] at hty; cases hty
      | some u => cases u <;> rw [hu] at hty <;> first | exact ⟨_, rfl⟩ | cases hty
    obtain ⟨k, hu⟩ := hu
    have ih := run_eqFields (d := d) fs (j + 1) xs ys us bs (by
      rw [← hrest]; apply List.mapIdx_eq_mapIdx_iff.2; intro i hi; rw [show j + 1 + i = j + (i + 1) from by omega]) (by simpa using h1) (by simpa using h2)
      (fun i c hc => by have := hx (i + 1) c (by simpa using hc); rwa [show j + (i + 1) = j + 1 + i from by omega] at this)
      (fun i c hc => by have := hy (i + 1) c (by simpa using hc); rwa [show j + (i + 1) = j + 1 + i from by omega] at this)
    simp only [Op.eqFields, ho]
    have heq : (Op.equalIn (d + 1) f.type (.int q a) (.int q b)).run P w = .ok (a == b) w := run_equalIn_int w d f.type q k a b hu
    simp only [ne_eq, hnm, not_false_eq_true, if_true, Sem.run_bind, run_part_int hu hxa, run_part_int hu hyb, Result.andThen_ok, heq]
    cases hab : a == b with
    | false => simp [ieqs, hab]
    | true => simpa [ieqs, hab] using ih
def ints (k : IntKind) (l : List Int) : List Value := l.map (Value.int k)
theorem run_equal_ints {t : TypeId} {k : IntKind} {us bs : List Int} {m : Nat} (ht : stInts P t = some m) (ha : us.length = m) (hb : bs.length = m) : (Op.equalIn 10000 t (.agg (ints k us).toArray) (.agg (ints k bs).toArray)).run P w = .ok (ieqs us bs) w ∧ P.eqGuardType P.depth t = false := by
  unfold stInts at ht
  split at ht
  · next fs hu =>
   split at ht
   · next h =>
    obtain ⟨h2, h3, h4⟩ := h
    simp only [Option.some.injEq] at ht
    have hf : P.fieldsOf t = fs := by simp [Program.fieldsOf, hu]
    refine ⟨?_, h3⟩
    rw [run_equalIn_struct w 9999 t _ _ (by rw [hf]; exact hu) h2, hf]
    refine run_eqFields (q := k) _ 0 _ _ us bs (by simpa using h4) (by simp; omega) (by simp; omega) (fun i a h => by simp [ints, h]) (fun i a h => by simp [ints, h])
   · cases ht
  · cases ht
theorem x_eqst {xt yt : TypeId} {x y : Operand} {k : IntKind} {us bs : List Int} {m : Nat} (ht : stInts P xt = some m) (hx : rv r x = .agg (ints k us).toArray) (hy : rv r y = .agg (ints k bs).toArray) (ha : us.length = m) (hb : bs.length = m) :
    (execOp (rv r) ⟨dst, .binOp .eql xt x y yt, ty, pos, after, gd⟩).run P w = .ok (.value (.bool (ieqs us bs))) w := by
  obtain ⟨h1, h2⟩ := run_equal_ints (P := P) (w := w) (k := k) ht ha hb
  simp only [execOp, hx, hy, Sem.run_bind, run_eqGuard_agg w .eql xt x y _ _ h2, Result.andThen_ok, run_eql_struct, h1]
  simp
theorem run_equal_pnil {t e : TypeId} {a : Option Addr} (ht : P.underlying t = some (.pointer e)) : (Op.equal t (.pointer a) (.pointer none)).run P w = .ok a.isNone w := by
  have h : ∀ d : Nat, (Op.equalIn (d + 1) t (.pointer a) (.pointer none)).run P w = .ok a.isNone w := fun d => by
    cases a <;> simp [Op.equalIn, run_underlying ht]
  exact h 9999
theorem x_eqpn {xt yt e : TypeId} {x y : Operand} {a : Option Addr} (ht : P.underlying xt = some (.pointer e)) (hx : rv r x = .pointer a) (hy : rv r y = .pointer none) : (execOp (rv r) ⟨dst, .binOp .eql xt x y yt, ty, pos, after, gd⟩).run P w = .ok (.value (.bool a.isNone)) w := by
  simp only [execOp, hx, hy, binOp, eqGuard]; simp [run_equal_pnil ht]
theorem Bp.eq' {r : Regs} : ∀ {ps : List (Nat × Operand)} {vs : List (Nat × Value)}, Bp r ps vs → ps.map (fun p => (p.1, rv r p.2)) = vs
  | [], [], _ => rfl
  | (i, x) :: ps, (j, v) :: vs, h => by
    obtain ⟨rfl, rfl, h⟩ := h
    simp [Bp.eq' h]
  | [], _ :: _, h => h.elim
  | _ :: _, [], h => h.elim
/-! ### an array's element, out of its value -/
theorem x_ixArr {α : Type} {en : Enc α} {xt : TypeId} {x y : Operand} {cs : List Value} {xs : List α} {m : Nat} {i : Int} {ik : IntKind} {v : Value} (hr : Rows en H cs xs) (hm : xs.length = m) (ht : arEl P xt = some (m, 1)) (he : ∀ e, P.underlying xt = some (.array m e) → tyOne P e = true) (hs : en.size = 1) (hx : rv r x = .agg cs.toArray) (hy : rv r y = .int ik i) (hi : inb i m = true)
    (hv : ∀ ecs z, xs[i.toNat]? = some z → en.rep H ecs z → ecs = [v]) : (execOp (rv r) ⟨dst, .index xt x y, ty, pos, after, gd⟩).run P w = .ok (.value v) w := by
  have hb : 0 ≤ i ∧ i < m := by simpa [inb] using hi
  have hlt : i.toNat < xs.length := by omega
  obtain ⟨ecs, h1, h2⟩ := hr.2 i.toNat _ (List.getElem?_eq_getElem hlt)
  have := hv ecs _ (List.getElem?_eq_getElem hlt) h1
  subst this
  have hc := h2 0 v rfl
  rw [hs, Nat.mul_one, Nat.add_zero] at hc
  unfold arEl at ht
  cases hu : P.underlying xt with
  | none => rw [hu] at ht; cases ht
  | some u =>
    rw [hu] at ht
    cases u <;> try (cases ht; done)
    next n' e =>
      simp only [] at ht
      cases hinf : P.info? e with
      | none => rw [hinf] at ht; cases ht
      | some inf =>
        rw [hinf] at ht
        simp only [Option.map_some, Option.some.injEq, Prod.mk.injEq] at ht
        obtain ⟨rfl, hsz⟩ := ht
        have hone := he e hu
        have hsz' : (sizeOf e).run P w = .ok 1 w := run_sizeOf (by simp [tySize, hinf, hsz])
        simp [execOp, Instr.index, hx, hy, asIntOf, run_underlying hu, hb.1, hb.2, hsz', part, run_isAgg_one hone, hc]
/-! ### maps of a whole number's keys -/
def mget {β : Type} (d : β) : List (Int × β) → Int → β
  | [], _ => d
  | (a, v) :: xs, k => bif a == k then v else mget d xs k
def mhas {β : Type} : List (Int × β) → Int → Bool
  | [], _ => false
  | (a, v) :: xs, k => (a == k) || mhas xs k
def mput {β : Type} : List (Int × β) → Int → β → List (Int × β)
  | [], k, v => [(k, v)]
  | (a, u) :: xs, k, v => bif a == k then (k, v) :: xs else (a, u) :: mput xs k v
def mcells {β : Type} (kk : IntKind) (f : β → Value) (xs : List (Int × β)) : List (Value × Value) := xs.map fun p => (.int kk p.1, f p.2)
theorem findNow_ints {β : Type} {kk : IntKind} {f : β → Value} (d : β) (k : Int) : ∀ (es : List MapEntry) (xs : List (Int × β)) (i : Nat), es.map (fun e => (e.key, e.val)) = mcells kk f xs →
    ∃ o, Instr.findNow (.int kk) (.int kk k) es i = some o ∧ (match o with | some (j, v) => mhas xs k = true ∧ v = f (mget d xs k) ∧ i ≤ j ∧ (es[j - i]?).map (·.key) = some (.int kk k) ∧ ∀ nv, (es.modify (j - i) fun e => { e with key := .int kk k, val := f nv }).map (fun e : MapEntry => (e.key, e.val)) = mcells kk f (mput xs k nv) | none => mhas xs k = false ∧ ∀ nv b, (es ++ [({ key := .int kk k, val := f nv, born := b } : MapEntry)]).map (fun e : MapEntry => (e.key, e.val)) = mcells kk f (mput xs k nv))
  | [], [], i, _ => ⟨none, rfl, rfl, fun nv b => rfl⟩
  | [], _ :: _, i, h => by simp [mcells] at h
  | _ :: _, [], i, h => by simp [mcells] at h
  | e :: es, (a, v) :: xs, i, h => by
    simp only [mcells, List.map_cons, List.cons.injEq, Prod.mk.injEq] at h
    obtain ⟨⟨hk, hv⟩, hr⟩ := h
    by_cases hak : a = k
    · subst hak
      refine ⟨some (i, e.val), by simp [Instr.findNow, hk, Instr.sameNow], ?_⟩
      refine ⟨by simp [mhas], by simp [mget, hv], Nat.le_refl _, by simp [hk], fun nv => ?_⟩
      simp [mput, mcells, hr]
    · have hne : (k == a) = false := by simp; omega
      have hne2 : (a == k) = false := by simp [hak]
      obtain ⟨o, h1, h2⟩ := findNow_ints d k es xs (i + 1) hr
      refine ⟨o, by simp [Instr.findNow, hk, Instr.sameNow, hne, h1], ?_⟩
      cases o with
      | none =>
        refine ⟨by simp [mhas, hne2, h2.1], fun nv b => ?_⟩
        have := h2.2 nv b
        simp only [mput, hne2, cond_false, mcells, List.map_cons, List.cons_append, hk, hv]
        rw [this]; rfl
      | some jv =>
        obtain ⟨j, u⟩ := jv
        obtain ⟨q1, q2, q3, q4, q5⟩ := h2
        have hj : j - i = (j - (i + 1)) + 1 := by omega
        refine ⟨by simp [mhas, q1], by simp [mget, hne2, q2], by omega, by rw [hj]; simpa using q4, fun nv => ?_⟩
        have := q5 nv
        rw [hj]
        simp only [List.modify_succ_cons, mput, hne2, cond_false, mcells, List.map_cons, hk, hv]
        rw [this]; rfl
def mapOf (P : Program) (t : TypeId) : Option (TypeId × TypeId) := match P.underlying t with | some (.map k e) => some (k, e) | _ => none
theorem mapOf_spec {t k e : TypeId} (h : mapOf P t = some (k, e)) : P.underlying t = some (.map k e) := by
  unfold mapOf at h
  split at h
  · next h' => simp at h; rw [h', h.1, h.2]
  · cases h
theorem run_checkKey_int {kt : TypeId} {kk : IntKind} {b : Bool} {k : Int} (hk : P.underlying kt = some (.int kk)) : (Instr.checkKey b 10000 kt (.int kk k)).run P w = .ok () w := by
  have : ∀ n : Nat, (Instr.checkKey b (n + 1) kt (.int kk k)).run P w = .ok () w := fun n => by simp [Instr.checkKey, run_underlying hk]
  exact this 9999
theorem o_makeMap {β : Type} {t : TypeId} (k : Nat) (kk : IntKind) (f : β → Value) (hO : St w0 H0 M0 H O w)
    (hk : ∀ g w', St w0 H0 M0 H (oup O k (some (.mp g (mcells kk f [])))) w' → WL P n ops rest N (upd r d (.map (some g))) w') (hd : Nat.blt d n = true := by rfl) :
    WL P n ops (⟨some d, .makeMap t none, ty, pos, after, none⟩ :: rest) N r w :=
  WL.op (fun v w' => v = .map (some w.heap.size) ∧ w' = w.alloc (.map #[] 0))
    (Does.val (v := .map (some w.heap.size)) (by simp [execOp, Instr.makeMap, newObj, Sem.run]) ⟨rfl, rfl⟩)
    (fun v w' ⟨h1, h2⟩ => by
      subst h1; subst h2
      exact hk _ _ (hO.put k _ (fun _ => False) (chg_alloc _ _ _) (fun _ h => h.elim) ⟨#[], 0, World.heap_push _ _, rfl⟩ (fun g hg => .inl (by simp [Own.ids] at hg; omega)))) hd
theorem x_look {β : Type} {t kt et : TypeId} {X Y : Operand} {g : Nat} {kk : IntKind} {f : β → Value} {xs : List (Int × β)} {key : Int} (k : Nat) (dz : β) (hO : St w0 H0 M0 H O w) (hk' : O k = some (.mp g (mcells kk f xs))) (hm : mapOf P t = some (kt, et)) (hkt : P.underlying kt = some (.int kk)) (hz : (P.info? et).bind (·.zero) = some (f dz))
    (hx : rv r X = .map (some g)) (hy : rv r Y = .int kk key) : (execOp (rv r) ⟨dst, .lookup t X Y false, ty, pos, after, gd⟩).run P w = .ok (.value (f (mget dz xs key))) w := by
  obtain ⟨a, c, hh, hes⟩ := hO.ok k _ hk'
  obtain ⟨o, h1, h2⟩ := findNow_ints (kk := kk) (f := f) dz key a.toList xs 0 hes
  obtain ⟨i, hi, hzv⟩ := Option.bind_eq_some_iff.1 hz
  have hget : ∀ (K : Obj → Sem Value), (Sem.getObj g K).run P w = (K (.map a c)).run P w := fun K => by simp [Sem.run, hh]
  have hck : ∀ b : Bool, (Instr.checkKey b 10000 kt (.int kk key)).run P w = .ok () w := fun b => run_checkKey_int hkt
  have hfind : (Instr.findKey kt (.int kk key) a.toList).run P w = .ok o w := by simp [Instr.findKey, run_underlying hkt, h1]
  simp only [execOp, Instr.lookup, hx, hy, Sem.run_bind, run_underlying (mapOf_spec hm), Result.andThen_ok]
  have hobj : (getObj g).run P w = .ok (.map a c) w := by simp [getObj, Sem.run, hh]
  simp only [hobj, Sem.run_bind, Result.andThen_ok, Sem.run_pure, hck, hfind]
  cases o with
  | none =>
    have hmiss : ∀ (xs : List (Int × β)), mhas xs key = false → mget dz xs key = dz := fun xs => by
      induction xs with
      | nil => intro _; rfl
      | cons p xs ih =>
        obtain ⟨a, v⟩ := p
        intro h
        simp [mhas] at h
        have h1 : (a == key) = false := by simpa using h.1
        simp [mget, h1, ih h.2]
    have hms : mget dz xs key = dz := hmiss xs h2.1
    simp [zeroValue, typeInfo, hi, hzv, hms, hck, hfind]
  | some jv => obtain ⟨j, v⟩ := jv; simp [h2.2.1, hck, hfind]
theorem o_mput {β : Type} {t kt et : TypeId} {X Y Z : Operand} {g : Nat} {kk : IntKind} {f : β → Value} {xs : List (Int × β)} {key : Int} {nv : β} (k : Nat) (hO : St w0 H0 M0 H O w) (hk' : O k = some (.mp g (mcells kk f xs))) (hm : mapOf P t = some (kt, et)) (hkt : P.underlying kt = some (.int kk))
    (hx : rv r X = .map (some g)) (hy : rv r Y = .int kk key) (hz : rv r Z = f nv)
    (hk : ∀ w', St w0 H0 M0 H (oup O k (some (.mp g (mcells kk f (mput xs key nv))))) w' → WL P n ops rest N r w') :
    WL P n ops (⟨none, .mapUpdate t X Y Z, ty, pos, after, none⟩ :: rest) N r w := by
  obtain ⟨a, c, hh, hes⟩ := hO.ok k _ hk'
  have hgl := lt_of_some hh
  obtain ⟨o, h1, h2⟩ := findNow_ints (kk := kk) (f := f) nv key a.toList xs 0 hes
  have hfind : (Instr.findKey kt (.int kk key) a.toList).run P w = .ok o w := by simp [Instr.findKey, run_underlying hkt, h1]
  have hobj : (getObj g).run P w = .ok (.map a c) w := by simp [getObj, Sem.run, hh]
  have main : ∃ (a' : Array MapEntry) (c' : Nat), (Instr.mapUpdate t (.map (some g)) (.int kk key) (f nv)).run P w = .ok () { w with heap := w.heap.setIfInBounds g (.map a' c') } ∧ a'.toList.map (fun e => (e.key, e.val)) = mcells kk f (mput xs key nv) := by
    simp only [Instr.mapUpdate, Sem.run_bind, run_underlying (mapOf_spec hm), Result.andThen_ok, hobj, run_checkKey_int hkt, hfind]
    cases o with
    | none =>
      refine ⟨a.push ⟨.int kk key, f nv, c⟩, c + 1, by simp [setObj, Sem.run, hh], by simpa using h2.2 nv c⟩
    | some jv =>
      obtain ⟨j, v⟩ := jv
      obtain ⟨q1, q2, q3, q4, q5⟩ := h2
      rw [Nat.sub_zero, Array.getElem?_toList] at q4
      rw [Nat.sub_zero] at q5
      have hstay : (Instr.keyThatStays (((a[j]?).map (·.key)).getD (.int kk key)) (.int kk key)).run P w = .ok (.int kk key) w := by
        rw [q4]
        simp [Instr.keyThatStays, Instr.sameBits]
      refine ⟨a.modify j fun e => { e with key := .int kk key, val := f nv }, c, by simp only [Sem.run_bind, hstay, Result.andThen_ok]; simp [setObj, Sem.run, hh], by simpa using q5 nv⟩
  obtain ⟨a', c', hrun, hes'⟩ := main
  refine WL.op0 (fun _ w' => w' = { w with heap := w.heap.setIfInBounds g (.map a' c') }) (by unfold Does; simp [execOp, hx, hy, hz, hrun]) (fun _ w' hw => by
    subst hw
    refine hk _ (hO.put k _ (fun b => b = g) ⟨rfl, rfl, rfl, by simp, fun b hb hn => by simp; rw [Array.getElem?_setIfInBounds_ne (fun h => hn h.symm)]⟩ (fun b hb => ⟨_, hk', by subst hb; simp [Own.ids]⟩) ⟨a', c', by simp [hgl], hes'⟩ (fun g' hg' => .inr ⟨_, hk', hg'⟩)))
theorem x_ixArrI {xt e : TypeId} {x y : Operand} {cs : List Value} {xs : List Int} {m : Nat} {i : Int} {ik k : IntKind} (hr : (eArr m (eInt k)).rep H cs xs) (ht : arEl P xt = some (m, 1)) (hu : P.underlying xt = some (.array m e)) (he : tyOne P e = true) (hx : rv r x = .agg cs.toArray) (hy : rv r y = .int ik i) (hi : inb i m = true) :
    (execOp (rv r) ⟨dst, .index xt x y, ty, pos, after, gd⟩).run P w = .ok (.value (.int k (at0 xs i))) w :=
  x_ixArr hr.1 hr.2 ht (fun e' h => by rw [hu] at h; cases h; exact he) rfl hx hy hi fun ecs z hz h => by
    have h2 : ecs = [.int k z] := h
    have h3 : z = at0 xs i := by simp [at0, List.getD, hz]
    rw [h2, h3]
theorem x_ixArrC {xt e : TypeId} {x y : Operand} {cs : List Value} {m : Nat} {i : Int} {ik : IntKind} {v : Value} (ht : arEl P xt = some (m, 1)) (hu : P.underlying xt = some (.array m e)) (he : tyOne P e = true) (hx : rv r x = .agg cs.toArray) (hy : rv r y = .int ik i) (hi : inb i m = true) (hc : cs[i.toNat]? = some v) :
    (execOp (rv r) ⟨dst, .index xt x y, ty, pos, after, gd⟩).run P w = .ok (.value v) w := by
  have hb : 0 ≤ i ∧ i < m := by simpa [inb] using hi
  unfold arEl at ht
  rw [hu] at ht
  simp only [] at ht
  cases hinf : P.info? e with
  | none => rw [hinf] at ht; cases ht
  | some inf =>
    rw [hinf] at ht
    simp only [Option.map_some, Option.some.injEq, Prod.mk.injEq] at ht
    have hsz' : (sizeOf e).run P w = .ok 1 w := run_sizeOf (by simp [tySize, hinf, ht.2])
    simp [execOp, Instr.index, hx, hy, asIntOf, run_underlying hu, hb.1, hb.2, hsz', part, run_isAgg_one he, hc]
theorem arr_get {α : Type} [Inhabited α] {en : Enc α} {cs : List Value} {xs : List α} {m : Nat} (h : (eArr m en).rep H cs xs) (hs : en.size = 1) {i : Int} (hi : inb i m = true) : ∃ ecs, en.rep H ecs (at0 xs i) ∧ cs[i.toNat]? = ecs[0]? := by
  obtain ⟨hr, rfl⟩ := h
  obtain ⟨ecs, h1, h2⟩ := hr.2 _ _ (at0_some hi)
  refine ⟨ecs, h1, ?_⟩
  have hl := en.len h1
  rw [hs] at hl
  have h0 : 0 < ecs.length := by omega
  have := h2 0 _ (List.getElem?_eq_getElem h0)
  rw [hs, Nat.mul_one, Nat.add_zero] at this
  rw [this, List.getElem?_eq_getElem h0]
/-! ### results that are the caller's own: several things -/
theorem setlenV {α : Type} {A : Option Addr} {c i : Nat} {xs : List α} {z : α} : Value.slice A xs.length c = .slice A (xs.set i z).length c := by simp
/-- Things under new names. -/
theorem St.relabel (h : St w0 H0 M0 H O w) (l : List (Nat × Own)) (hl : allIn O l) (hn : (names l).Nodup) : St w0 H0 M0 H (ol (renum 0 l)) w := by
  refine ⟨h.sub, h.le, h.new_, fun j q hj => ?_, fun j q g hj hg => ?_, fun j i q s g hj hi hq hs => ?_, h.fr, h.sz, h.os, h.tape, h.output⟩
  · obtain ⟨k, _, h2⟩ := renum_lookup hj
    exact h.ok k q (allIn_get hl h2)
  · obtain ⟨k, _, h2⟩ := renum_lookup hj
    exact h.own k q g (allIn_get hl h2) hg
  · obtain ⟨k, a1, h2⟩ := renum_lookup hj
    obtain ⟨k', a2, h3⟩ := renum_lookup hi
    have : k = k' := h.nd k k' q s g (allIn_get hl h2) (allIn_get hl h3) hq hs
    subst this
    have := names_inj hn h2 h3
    omega
def cutO (O : OHeap) (base : Nat) : OHeap := fun i => bif Nat.blt i base then O i else none
def addQ (O : OHeap) (j : Nat) : List Own → OHeap
  | [] => O
  | q :: qs => oup (addQ O (j + 1) qs) j (some q)
def allAt (O : OHeap) (j : Nat) : List Own → Prop
  | [] => True
  | q :: qs => O j = some q ∧ allAt O (j + 1) qs
theorem addQ_spec {O O' : OHeap} : ∀ {qs : List Own} {j base i : Nat} {p : Own}, allAt O' j qs → addQ O (base + j) qs i = some p → (base + j ≤ i ∧ O' (i - base) = some p) ∨ O i = some p
  | [], j, base, i, p, _, h => .inr h
  | q :: qs, j, base, i, p, ha, h => by
    simp only [addQ] at h
    by_cases hx : base + j = i
    · rw [hx, oup_same] at h
      refine .inl ⟨by omega, ?_⟩
      rw [show i - base = j from by omega, ha.1]; exact h
    · rw [oup_ne _ _ hx, show base + j + 1 = base + (j + 1) from by omega] at h
      rcases addQ_spec ha.2 h with ⟨h1, h2⟩ | h2
      · exact .inl ⟨by omega, h2⟩
      · exact .inr h2
theorem St.callB {H' : IHeap} {O' : OHeap} {w' : World} (h : St w0 H0 M0 H O w) (hc : St w H [] H' O' w') (base : Nat) (qs : List Own) (hq : allAt O' 0 qs) : St w0 H0 M0 H' (addQ (cutO O base) base qs) w' := by
  have hfr : ∀ b, b < w.heap.size → w'.heap[b]? = w.heap[b]? := fun b hb => hc.fr b hb (by simp)
  have hcut : ∀ {i : Nat} {p : Own}, cutO O base i = some p → i < base ∧ O i = some p := fun {i p} hp => by
    unfold cutO at hp
    cases hb : Nat.blt i base with
    | true => rw [hb] at hp; exact ⟨by simpa [Nat.blt_eq] using hb, hp⟩
    | false => rw [hb] at hp; cases hp
  have hsp : ∀ {i : Nat} {p : Own}, addQ (cutO O base) base qs i = some p → (base ≤ i ∧ O' (i - base) = some p) ∨ (i < base ∧ O i = some p) := fun {i p} hp => by
    rcases addQ_spec (j := 0) (base := base) hq hp with h1 | h1
    · exact .inl h1
    · exact .inr (hcut h1)
  have hnew : ∀ {i : Nat} {p : Own} {g : Nat}, O' i = some p → g ∈ p.ids → w.heap.size ≤ g := fun {i p g} hp hg => by
    rcases (hc.own i p g hp hg).2 with h1 | h1
    · cases h1
    · exact h1
  have hold : ∀ {i : Nat} {p : Own} {g : Nat}, O i = some p → g ∈ p.ids → g < w.heap.size := fun {i p g} hp hg => Own.lt (h.ok i p hp) hg
  refine ⟨hc.sub, h.le.trans hc.le, fun b o e => ?_, fun j q hj => ?_, fun j q g hj hg => ?_, fun j i q s g hj hi hq hs => ?_, fun b hb hn => ?_, Nat.le_trans h.sz hc.sz, hc.os.trans h.os, hc.tape.trans h.tape, hc.output.trans h.output⟩
  · rcases hc.new_ b o e with h1 | h1 | h1
    · exact h.new_ b o h1
    · exact .inr (.inl (Nat.le_trans h.sz h1))
    · cases h1
  · rcases hsp hj with ⟨_, h1⟩ | ⟨_, h1⟩
    · exact hc.ok _ q h1
    · exact Own.ok_same (h.ok j q h1) fun g hg => hfr g (hold h1 hg)
  · rcases hsp hj with ⟨_, h1⟩ | ⟨_, h1⟩
    · exact ⟨(hc.own _ q g h1 hg).1, .inr (Nat.le_trans h.sz (hnew h1 hg))⟩
    · refine ⟨?_, (h.own j q g h1 hg).2⟩
      cases hh : H' g with
      | none => rfl
      | some o =>
        rcases hc.new_ g o hh with h3 | h3 | h3
        · rw [(h.own j q g h1 hg).1] at h3; cases h3
        · have := hold h1 hg; omega
        · cases h3
  · rcases hsp hj with ⟨a1, h1⟩ | ⟨a1, h1⟩
    · rcases hsp hi with ⟨a2, h2⟩ | ⟨a2, h2⟩
      · have := hc.nd _ _ q s g h1 h2 hq hs
        omega
      · have := hnew h1 hq; have := hold h2 hs; omega
    · rcases hsp hi with ⟨a2, h2⟩ | ⟨a2, h2⟩
      · have := hold h1 hq; have := hnew h2 hs; omega
      · exact h.nd j i q s g h1 h2 hq hs
  · rw [hfr b (Nat.lt_of_lt_of_le hb h.sz)]; exact h.fr b hb hn
end
end Go.Sw

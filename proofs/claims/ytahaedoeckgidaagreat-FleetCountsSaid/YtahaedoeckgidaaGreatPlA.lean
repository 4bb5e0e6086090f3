/- The plain law: numbers, rows of numbers. -/
import Derived.Test.YtahaedoeckgidaaGreatMir
import Derived.KernelRfl
set_option linter.unusedVariables false
set_option linter.unusedSimpArgs false
namespace Go.Sw.FL
theorem cb_t {b : Bool} {α : Type} {x y z : α} (hp : b = true) (h : x = z) : (bif b then x else y) = z := by rw [hp]; exact h
theorem cb_f {b : Bool} {α : Type} {x y z : α} (hp : b = false) (h : y = z) : (bif b then x else y) = z := by rw [hp]; exact h
theorem bif_t {p : Prop} [Decidable p] {α : Type} {x y z : α} (hp : p) (h : x = z) : (bif decide p then x else y) = z := by rw [decide_eq_true hp]; exact h
theorem bif_f {p : Prop} [Decidable p] {α : Type} {x y z : α} (hp : ¬ p) (h : y = z) : (bif decide p then x else y) = z := by rw [decide_eq_false hp]; exact h
theorem bd_s {α β : Type} {a : Option α} {x : α} {f : α → Option β} {z : Option β} (h : a = some x) (h2 : f x = z) : a.bind f = z := by rw [h]; exact h2
theorem inb_nat {i n : Nat} (h : i < n) : inb (i : Int) n = true := by simp [inb]; omega
theorem at0_nat {α : Type} [Inhabited α] {xs : List α} {i : Nat} (h : i < xs.length) : at0 xs (i : Int) = xs[i] := by simp [at0, h]
theorem i64s (i : Nat) (h : i < 1000000000) : i64w ((i : Int) + 1) = ((i + 1 : Nat) : Int) := by rw [i64w_eq (by omega) (by omega)]; simp
theorem lim_t {n : Nat} (h : n ≤ 1000000000) : lim n = true := by simp [lim]; omega
theorem clone_eq {α : Type} {l : List α} (h : l.length ≤ 1000000000) : cloneM l = some l := by unfold cloneM; rw [lim_t h]; rfl
/-! ### numbers -/
def hd (n : Int) : Int := iMax (-2147483647) (iMin 2147483647 n)
def ok (n : Int) : Prop := -2147483647 ≤ n ∧ n ≤ 2147483647
instance (n : Int) : Decidable (ok n) := by unfold ok; infer_instance
theorem hd_ok (n : Int) : ok (hd n) := by unfold ok hd iMax iMin; split <;> split <;> omega
theorem hd_id {n : Int} (h : ok n) : hd n = n := by unfold ok at h; unfold hd iMax iMin; split <;> split <;> omega
theorem hd_iff {n : Int} : hd n = n ↔ ok n := ⟨fun h => h ▸ hd_ok n, hd_id⟩
theorem hold_eq (n : Int) : fix_Hold n = some (hd n) := rfl
theorem rhold_eq (n : Int) : switchboardref01_Hold n = some (hd n) := by
 unfold switchboardref01_Hold
 by_cases h1 : 2147483647 < n
 ·refine bif_t h1 ?_; unfold hd iMax iMin; congr 1; split <;> split <;> omega
 ·refine bif_f h1 ?_
  by_cases h2 : n < -2147483647
  ·refine bif_t h2 ?_; unfold hd iMax iMin; congr 1; split <;> split <;> omega
  ·refine bif_f h2 ?_; rw [hd_id]; exact ⟨by omega, by omega⟩
theorem mul_b {x y : Int} (hx : ok x) (hy : ok y) : -4611686014132420609 ≤ x * y ∧ x * y ≤ 4611686014132420609 := by
 have h1 : x.natAbs ≤ 2147483647 := by unfold ok at hx; omega
 have h2 : y.natAbs ≤ 2147483647 := by unfold ok at hy; omega
 have h3 := Nat.mul_le_mul h1 h2
 rw [← Int.natAbs_mul] at h3
 omega
def fmul (a b : Int) : Int := hd (Int.tdiv (hd a * hd b) 65536)
def fadd (a b : Int) : Int := hd (hd a + hd b)
theorem fmul_ok (a b : Int) : ok (fmul a b) := hd_ok _
theorem fadd_ok (a b : Int) : ok (fadd a b) := hd_ok _
theorem tdiv_b {z : Int} : Int.tdiv z 65536 = if 0 ≤ z then z / 65536 else -(-z / 65536) := by
 split
 ·next h => rw [Int.tdiv_eq_ediv_of_nonneg h]
 ·next h =>
  have : z = -(-z) := by omega
  conv => lhs; rw [this]
  rw [Int.neg_tdiv, Int.tdiv_eq_ediv_of_nonneg (by omega)]
theorem mul_eq (a b : Int) : fix_Mul a b = some (fmul a b) := by
 have h := mul_b (hd_ok a) (hd_ok b)
 have h2 := tdiv_b (z := hd a * hd b)
 unfold fix_Mul
 simp only [hold_eq, Option.bind_some]
 rw [i64w_eq (x := hd a * hd b) (by omega) (by omega), i64w_eq (by rw [h2]; split <;> omega) (by rw [h2]; split <;> omega)]
 rfl
theorem add_eq (a b : Int) : fix_Add a b = some (fadd a b) := by
 have h1 := hd_ok a
 have h2 := hd_ok b
 unfold ok at h1 h2
 unfold fix_Add
 simp only [hold_eq, Option.bind_some]
 rw [i64w_eq (by omega) (by omega)]
 rfl
theorem rmul_eq (a b : Int) : switchboardref01_Mul a b = some (fmul a b) := by
 have hA := hd_ok a
 have hB := hd_ok b
 unfold switchboardref01_Mul
 simp only [rhold_eq, Option.bind_some]
 unfold fmul
 generalize hd a = x at *
 generalize hd b = y at *
 have hm := mul_b hA hB
 have h0 := tdiv_b (z := x * y)
 have hA' := hA
 have hB' := hB
 unfold ok at hA' hB'
 have n1 : i64w (0 - x) = -x := by rw [i64w_eq (by omega) (by omega)]; omega
 have n2 : i64w (0 - y) = -y := by rw [i64w_eq (by omega) (by omega)]; omega
 have e1 : x * -y = -(x * y) := Int.mul_neg x y
 have e2 : -x * y = -(x * y) := Int.neg_mul x y
 have e3 : -x * -y = x * y := Int.neg_mul_neg x y
 rw [n1, n2, e1, e2, e3]
 have t1 : Int.tdiv (-(x * y)) 65536 = -(Int.tdiv (x * y) 65536) := Int.neg_tdiv _ _
 have w1 : i64w (x * y) = x * y := i64w_eq (by omega) (by omega)
 have w2 : i64w (-(x * y)) = -(x * y) := i64w_eq (by omega) (by omega)
 have w3 : i64w (Int.tdiv (x * y) 65536) = Int.tdiv (x * y) 65536 := i64w_eq (by rw [h0]; split <;> omega) (by rw [h0]; split <;> omega)
 have w4 : i64w (-(Int.tdiv (x * y) 65536)) = -(Int.tdiv (x * y) 65536) := i64w_eq (by rw [h0]; split <;> omega) (by rw [h0]; split <;> omega)
 have w5 : i64w (0 - -(Int.tdiv (x * y) 65536)) = Int.tdiv (x * y) 65536 := by rw [Int.zero_sub, Int.neg_neg]; exact w3
 rw [w1, w2, t1, w3, w4, w5]
 simp only [Bool.not_false, Bool.not_true, cond_true, cond_false, Option.bind_some]
 cases decide (x < 0) <;> cases decide (y < 0) <;> rfl
/-! ### rows of numbers -/
def dotF : Int → List Int → List Int → Int
 | s, x :: xs, y :: ys => dotF (fadd s (fmul x y)) xs ys
 | s, _, _ => s
def dot (a b : List Int) : Int := dotF 0 a b
theorem dot_l1 (b : List Int) : ∀ (suf : List Int) (i : Nat) (s : Int), i + suf.length ≤ b.length → vec_Dot_l1 b suf i s = some (dotF s suf (b.drop i))
 | [], i, s, _ => by rw [vec_Dot_l1]; simp [dotF]
 | x :: suf, i, s, h => by
  have hi : i < b.length := by simp at h; omega
  rw [vec_Dot_l1]
  refine cb_t (inb_nat hi) ?_
  rw [at0_nat hi, mul_eq]
  simp only [Option.bind_some, add_eq]
  rw [dot_l1 b suf (i + 1) _ (by simp at h; omega), List.drop_eq_getElem_cons hi]
  rfl
theorem dot_eq {a b : List Int} (h : a.length = b.length) : vec_Dot a b = some (dot a b, true) := by
 unfold vec_Dot
 refine cb_f (by simp [h]) ?_
 rw [dot_l1 b a 0 0 (by omega)]
 rfl
theorem dotF_ok : ∀ (a b : List Int) (s : Int), ok s → ok (dotF s a b)
 | [], b, s, h => by unfold dotF; exact h
 | x :: a, [], s, h => by unfold dotF; exact h
 | x :: a, y :: b, s, h => by unfold dotF; exact dotF_ok a b _ (fadd_ok _ _)
theorem dot_ok (a b : List Int) : ok (dot a b) := dotF_ok a b 0 (by decide)
theorem rdot_l1 (a b : List Int) (hab : a.length = b.length) (hl : a.length ≤ 100000) : ∀ (fuel i : Nat) (s : Int), i ≤ a.length → a.length - i < fuel → ok s → switchboardref02_Dot_l1 a b fuel s (i : Int) = some (dotF s (a.drop i) (b.drop i), (a.length : Int))
 | 0, i, s, _, h, _ => by omega
 | fuel + 1, i, s, hi, h, hs => by
  rw [switchboardref02_Dot_l1]
  by_cases he : i = a.length
  ·refine bif_f (by omega) ?_
   rw [he]; simp [dotF]
  ·have hlt : i < a.length := by omega
   have hlb : i < b.length := by omega
   refine bif_t (by omega) (cb_t (inb_nat hlt) (cb_t (inb_nat hlb) ?_))
   rw [at0_nat hlt, at0_nat hlb, rmul_eq]
   simp only [Option.bind_some, rhold_eq]
   have hm := fmul_ok a[i] b[i]
   have e : hd (i64w (s + fmul a[i] b[i])) = fadd s (fmul a[i] b[i]) := by
    unfold fadd
    rw [hd_id hs, hd_id hm, i64w_eq] <;> (unfold ok at hs hm; omega)
   rw [e, i64s i (by omega), rdot_l1 a b hab hl fuel (i + 1) _ (by omega) (by omega) (fadd_ok _ _), List.drop_eq_getElem_cons hlt, List.drop_eq_getElem_cons hlb]
   rfl
theorem rdot_eq {a b : List Int} (h : a.length = b.length) (hl : a.length ≤ 100000) : switchboardref02_Dot a b = some (dot a b) := by
 unfold switchboardref02_Dot
 have := rdot_l1 a b h hl FUEL 0 0 (by omega) (by unfold FUEL; omega) (by decide)
 refine bd_s this ?_
 rfl
def app (m : List (List Int)) (v : List Int) : List Int := m.map fun l => dot l v
def rect (m : List (List Int)) (c : Nat) : Prop := ∀ l ∈ m, l.length = c
theorem app_l1 (v : List Int) : ∀ (m : List (List Int)) (i : Nat) (acc : List Int), rect m v.length → acc.length + m.length ≤ 1000000 → mat_Apply_l1 v m i acc = some (.out (acc ++ app m v))
 | [], i, acc, _, _ => by simp [mat_Apply_l1, app]
 | l :: m, i, acc, hr, hl => by
  rw [mat_Apply_l1, dot_eq (hr l (by simp))]
  simp only [Option.bind_some]
  refine cb_f rfl (cb_t (lim_t (by simp at hl ⊢; omega)) ?_)
  rw [app_l1 v m (i + 1) _ (fun x hx => hr x (by simp [hx])) (by simp at hl ⊢; omega)]
  simp [app]
theorem app_eq {m : List (List Int)} {v : List Int} (hr : rect m v.length) (hl : m.length ≤ 100000) : mat_Apply m v = some (app m v, true) := by
 unfold mat_Apply
 rw [app_l1 v m 0 [] hr (by simp; omega)]
 rfl
theorem rapp_l1 (m : List (List Int)) (v : List Int) (hr : rect m v.length) (hl : m.length ≤ 100000) (hv : v.length ≤ 100000) : ∀ (fuel i : Nat) (acc : List Int), i ≤ m.length → acc.length ≤ i → m.length - i < fuel → switchboardref03_Apply_l1 m v fuel acc (i : Int) = some (.out (acc ++ app (m.drop i) v, (m.length : Int)))
 | 0, i, acc, _, _, h => by omega
 | fuel + 1, i, acc, hi, ha, h => by
  rw [switchboardref03_Apply_l1]
  by_cases he : i = m.length
  ·refine bif_f (by omega) ?_
   rw [he]; simp [app]
  ·have hlt : i < m.length := by omega
   have hlen : m[i].length = v.length := hr _ (List.getElem_mem hlt)
   refine bif_t (by omega) (cb_t (inb_nat hlt) ?_)
   rw [at0_nat hlt]
   refine cb_f (by rw [hlen]; simp) (cb_t (inb_nat hlt) ?_)
   rw [rdot_eq hlen (by omega)]
   simp only [Option.bind_some]
   refine cb_t (lim_t (by simp; omega)) ?_
   rw [i64s i (by omega), rapp_l1 m v hr hl hv fuel (i + 1) _ (by omega) (by simp; omega) (by omega)]
   have e : app (m.drop i) v = dot m[i] v :: app (m.drop (i + 1)) v := by rw [List.drop_eq_getElem_cons hlt]; rfl
   rw [e]; simp
theorem rapp_eq {m : List (List Int)} {v : List Int} (hr : rect m v.length) (hl : m.length ≤ 100000) (hv : v.length ≤ 100000) : switchboardref03_Apply m v = some (app m v, true) := by
 unfold switchboardref03_Apply
 refine bd_s (rapp_l1 m v hr hl hv FUEL 0 [] (by omega) (by simp) (by unfold FUEL; omega)) ?_
 simp
def vadd (a b : List Int) : List Int := List.zipWith fadd a b
theorem vadd_l1 (b : List Int) : ∀ (suf : List Int) (i : Nat) (acc : List Int), i + suf.length ≤ b.length → acc.length + suf.length ≤ 1000000 → vec_each_vec_Add_1_l1 b suf i acc = some (acc ++ vadd suf (b.drop i))
 | [], i, acc, _, _ => by simp [vec_each_vec_Add_1_l1, vadd]
 | x :: suf, i, acc, h, hl => by
  have hi : i < b.length := by simp at h; omega
  rw [vec_each_vec_Add_1_l1, vec_Add_1]
  refine bd_s (x := fadd x b[i]) (cb_t (inb_nat hi) (by rw [at0_nat hi, add_eq]; rfl)) (cb_t (lim_t (by simp at hl ⊢; omega)) ?_)
  rw [vadd_l1 b suf (i + 1) _ (by simp at h; omega) (by simp at hl ⊢; omega)]
  have e : vadd (x :: suf) (b.drop i) = fadd x b[i] :: vadd suf (b.drop (i + 1)) := by rw [List.drop_eq_getElem_cons hi]; rfl
  rw [e]; simp
theorem vadd_eq {a b : List Int} (h : a.length = b.length) (hl : a.length ≤ 100000) : vec_Add a b = some (vadd a b, true) := by
 unfold vec_Add vec_each_vec_Add_1
 refine cb_f (by simp [h]) ?_
 rw [vadd_l1 b a 0 [] (by omega) (by simp; omega)]
 rfl
theorem rvadd_l1 (a b : List Int) (hab : a.length = b.length) (hl : a.length ≤ 100000) : ∀ (fuel i : Nat) (acc : List Int), i ≤ a.length → acc.length ≤ i → a.length - i < fuel → ∃ z, switchboardref02_Add_l1 a b fuel acc (i : Int) = some (acc ++ vadd (a.drop i) (b.drop i), z)
 | 0, i, acc, _, _, h => by omega
 | fuel + 1, i, acc, hi, ha, h => by
  rw [switchboardref02_Add_l1]
  by_cases he : i = a.length
  ·refine ⟨(i : Int), bif_f (by omega) ?_⟩
   rw [he]; simp [vadd]
  ·have hlt : i < a.length := by omega
   have hlb : i < b.length := by omega
   obtain ⟨z, hz⟩ := rvadd_l1 a b hab hl fuel (i + 1) (acc ++ [fadd a[i] b[i]]) (by omega) (by simp; omega) (by omega)
   refine ⟨z, bif_t (by omega) (cb_t (inb_nat hlt) ?_)⟩
   rw [at0_nat hlt, rhold_eq]
   simp only [Option.bind_some]
   refine cb_t (inb_nat hlb) ?_
   rw [at0_nat hlb, rhold_eq]
   have h1 := hd_ok a[i]
   have h2 := hd_ok b[i]
   simp only [Option.bind_some]
   rw [i64w_eq (by unfold ok at h1 h2; omega) (by unfold ok at h1 h2; omega), rhold_eq]
   simp only [Option.bind_some]
   refine cb_t (lim_t (by simp; omega)) ?_
   have e : hd (hd a[i] + hd b[i]) = fadd a[i] b[i] := rfl
   have e2 : vadd (a.drop i) (b.drop i) = fadd a[i] b[i] :: vadd (a.drop (i + 1)) (b.drop (i + 1)) := by rw [List.drop_eq_getElem_cons hlt, List.drop_eq_getElem_cons hlb]; rfl
   rw [i64s i (by omega), e, hz, e2]; simp
theorem rvadd_eq {a b : List Int} (h : a.length = b.length) (hl : a.length ≤ 100000) : switchboardref02_Add a b = some (vadd a b) := by
 unfold switchboardref02_Add
 obtain ⟨z, hz⟩ := rvadd_l1 a b h hl FUEL 0 [] (by omega) (by simp) (by unfold FUEL; omega)
 refine bd_s hz ?_
 simp
def vscale (a : List Int) (k : Int) : List Int := a.map fun x => fmul x k
theorem vscale_l1 (k : Int) : ∀ (suf : List Int) (i : Nat) (acc : List Int), acc.length + suf.length ≤ 1000000 → vec_each_vec_Scale_1_l1 k suf i acc = some (acc ++ vscale suf k)
 | [], i, acc, _ => by simp [vec_each_vec_Scale_1_l1, vscale]
 | x :: suf, i, acc, hl => by
  rw [vec_each_vec_Scale_1_l1, vec_Scale_1, mul_eq]
  simp only [Option.bind_some]
  refine cb_t (lim_t (by simp at hl ⊢; omega)) ?_
  rw [vscale_l1 k suf (i + 1) _ (by simp at hl ⊢; omega)]
  simp [vscale]
theorem vscale_eq (a : List Int) (k : Int) (hl : a.length ≤ 100000) : vec_Scale a k = some (vscale a k) := by
 unfold vec_Scale vec_each_vec_Scale_1
 rw [vscale_l1 k a 0 [] (by simp; omega)]
 rfl
theorem rvscale_l1 (a : List Int) (k : Int) (hl : a.length ≤ 100000) : ∀ (fuel i : Nat) (acc : List Int), i ≤ a.length → acc.length ≤ i → a.length - i < fuel → ∃ z, switchboardref02_Scale_l1 a k fuel acc (i : Int) = some (acc ++ vscale (a.drop i) k, z)
 | 0, i, acc, _, _, h => by omega
 | fuel + 1, i, acc, hi, ha, h => by
  rw [switchboardref02_Scale_l1]
  by_cases he : i = a.length
  ·refine ⟨(i : Int), bif_f (by omega) ?_⟩
   rw [he]; simp [vscale]
  ·have hlt : i < a.length := by omega
   obtain ⟨z, hz⟩ := rvscale_l1 a k hl fuel (i + 1) (acc ++ [fmul a[i] k]) (by omega) (by simp; omega) (by omega)
   refine ⟨z, bif_t (by omega) (cb_t (inb_nat hlt) ?_)⟩
   rw [at0_nat hlt, rmul_eq]
   simp only [Option.bind_some]
   refine cb_t (lim_t (by simp; omega)) ?_
   have e2 : vscale (a.drop i) k = fmul a[i] k :: vscale (a.drop (i + 1)) k := by rw [List.drop_eq_getElem_cons hlt]; rfl
   rw [i64s i (by omega), hz, e2]; simp
theorem rvscale_eq (a : List Int) (k : Int) (hl : a.length ≤ 100000) : switchboardref02_Scale a k = some (vscale a k) := by
 unfold switchboardref02_Scale
 obtain ⟨z, hz⟩ := rvscale_l1 a k hl FUEL 0 [] (by omega) (by simp) (by unfold FUEL; omega)
 refine bd_s hz ?_
 simp
def vrelu (a : List Int) : List Int := a.map fun x => iMax (hd x) 0
theorem vrelu_l1 : ∀ (suf : List Int) (i : Nat) (acc : List Int), acc.length + suf.length ≤ 1000000 → vec_each_vec_Relu_1_l1 suf i acc = some (acc ++ vrelu suf)
 | [], i, acc, _ => by simp [vec_each_vec_Relu_1_l1, vrelu]
 | x :: suf, i, acc, hl => by
  rw [vec_each_vec_Relu_1_l1, vec_Relu_1, hold_eq]
  simp only [Option.bind_some]
  refine cb_t (lim_t (by simp at hl ⊢; omega)) ?_
  rw [vrelu_l1 suf (i + 1) _ (by simp at hl ⊢; omega)]
  simp [vrelu]
theorem vrelu_eq (a : List Int) (hl : a.length ≤ 100000) : vec_Relu a = some (vrelu a) := by
 unfold vec_Relu vec_each_vec_Relu_1
 rw [vrelu_l1 a 0 [] (by simp; omega)]
 rfl
theorem rvrelu_l1 (a : List Int) (hl : a.length ≤ 100000) : ∀ (fuel i : Nat) (acc : List Int), i ≤ a.length → acc.length ≤ i → a.length - i < fuel → ∃ z, switchboardref02_Relu_l1 a fuel acc (i : Int) = some (acc ++ vrelu (a.drop i), z)
 | 0, i, acc, _, _, h => by omega
 | fuel + 1, i, acc, hi, ha, h => by
  rw [switchboardref02_Relu_l1]
  by_cases he : i = a.length
  ·refine ⟨(i : Int), bif_f (by omega) ?_⟩
   rw [he]; simp [vrelu]
  ·have hlt : i < a.length := by omega
   obtain ⟨z, hz⟩ := rvrelu_l1 a hl fuel (i + 1) (acc ++ [iMax (hd a[i]) 0]) (by omega) (by simp; omega) (by omega)
   refine ⟨z, bif_t (by omega) (cb_t (inb_nat hlt) ?_)⟩
   rw [at0_nat hlt, rhold_eq]
   simp only [Option.bind_some]
   have e2 : vrelu (a.drop i) = iMax (hd a[i]) 0 :: vrelu (a.drop (i + 1)) := by rw [List.drop_eq_getElem_cons hlt]; rfl
   by_cases hneg : hd a[i] < 0
   ·have e : iMax (hd a[i]) 0 = 0 := by unfold iMax; rw [if_pos hneg]
    rw [e] at hz e2
    refine bif_t hneg (cb_t (lim_t (by simp; omega)) ?_)
    rw [i64s i (by omega), hz, e2]; simp
   ·have e : iMax (hd a[i]) 0 = hd a[i] := by unfold iMax; rw [if_neg hneg]
    rw [e] at hz e2
    refine bif_f hneg (cb_t (lim_t (by simp; omega)) ?_)
    rw [i64s i (by omega), hz, e2]; simp
theorem rvrelu_eq (a : List Int) (hl : a.length ≤ 100000) : switchboardref02_Relu a = some (vrelu a) := by
 unfold switchboardref02_Relu
 obtain ⟨z, hz⟩ := rvrelu_l1 a hl FUEL 0 [] (by omega) (by simp) (by unfold FUEL; omega)
 refine bd_s hz ?_
 simp
end Go.Sw.FL

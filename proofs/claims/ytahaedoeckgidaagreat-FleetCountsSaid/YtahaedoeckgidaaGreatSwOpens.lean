/- What a law is handed, as data: structures. -/
import Derived.Test.YtahaedoeckgidaaGreatSwOpen
import Derived.ChangeSame
set_option linter.unusedVariables false
set_option linter.unusedSimpArgs false
namespace Go.Sw
section
variable {P : Program} {t : TypeId} {α β γ δ : Type}
theorem Opens.any {en : Enc α} {ok : α → Prop} (h : Opens en P t ok) : Opens en P t (fun _ => True) := fun H enc w base spare held fuel cs x hx => by
 obtain ⟨y, h1, _⟩ := h H enc w base spare held fuel cs x hx
 exact ⟨y, h1, trivial⟩
/-- A structure of two fields. -/
theorem opens_st2 {en : Enc α} {e0 : Enc β} {e1 : Enc γ} {f0 f1 : Field} {o0 : β → Prop} {o1 : γ → Prop} (ht : P.underlying t = some (.struct #[f0, f1])) (h0 : Opens e0 P f0.type o0) (h1 : Opens e1 P f1.type o1)
  (hf0 : f0.offset = 0) (hf1 : f1.offset = e0.size) (s0 : P.cellsOf f0.type = e0.size) (s1 : P.cellsOf f1.type = e1.size) (s : P.cellsOf t = e0.size + e1.size)
  (mk : ∀ H a b x y, e0.rep H a x → e1.rep H b y → ∃ z, en.rep H (a ++ b) z) : Opens en P t (fun _ => True) := fun H enc w base spare held fuel cs x hx => by
 obtain ⟨y0, y1, n, _, hl, g0, g1⟩ := Go.ChangeShapes.trod_struct2 ht hx
 obtain ⟨z0, r0, _⟩ := h0 H enc w base spare held n _ _ g0
 obtain ⟨z1, r1, _⟩ := h1 H enc w base spare held n _ _ g1
 obtain ⟨z, hz⟩ := mk _ _ _ _ _ r0 r1
 refine ⟨z, ?_, trivial⟩
 have e : (cs.drop f0.offset).take (P.cellsOf f0.type) ++ (cs.drop f1.offset).take (P.cellsOf f1.type) = cs := by
  rw [hf0, hf1, s0, s1, List.drop_zero]
  have : (cs.drop e0.size).take e1.size = cs.drop e0.size := List.take_of_length_le (by rw [List.length_drop]; omega)
  rw [this, List.take_append_drop]
 rw [e] at hz; exact hz
/-- A structure of three fields. -/
theorem opens_st3 {en : Enc α} {e0 : Enc β} {e1 : Enc γ} {e2 : Enc δ} {f0 f1 f2 : Field} {o0 : β → Prop} {o1 : γ → Prop} {o2 : δ → Prop} (ht : P.underlying t = some (.struct #[f0, f1, f2])) (h0 : Opens e0 P f0.type o0) (h1 : Opens e1 P f1.type o1) (h2 : Opens e2 P f2.type o2)
  (hf0 : f0.offset = 0) (hf1 : f1.offset = e0.size) (hf2 : f2.offset = e0.size + e1.size) (s0 : P.cellsOf f0.type = e0.size) (s1 : P.cellsOf f1.type = e1.size) (s2 : P.cellsOf f2.type = e2.size) (s : P.cellsOf t = e0.size + e1.size + e2.size)
  (mk : ∀ H a b c x y z, e0.rep H a x → e1.rep H b y → e2.rep H c z → ∃ q, en.rep H (a ++ (b ++ c)) q) : Opens en P t (fun _ => True) := fun H enc w base spare held fuel cs x hx => by
 obtain ⟨xs, n, _, _, hl, hlen, hf⟩ := DataW.trod_struct ht hx
 match xs, hlen with
 | [y0, y1, y2], _ =>
  have g0 : DataW.trod enc P w base spare held n f0.type ((cs.drop f0.offset).take (P.cellsOf f0.type)) = some y0 := by simpa using hf 0 f0 rfl
  have g1 : DataW.trod enc P w base spare held n f1.type ((cs.drop f1.offset).take (P.cellsOf f1.type)) = some y1 := by simpa using hf 1 f1 rfl
  have g2 : DataW.trod enc P w base spare held n f2.type ((cs.drop f2.offset).take (P.cellsOf f2.type)) = some y2 := by simpa using hf 2 f2 rfl
  obtain ⟨z0, r0, _⟩ := h0 H enc w base spare held n _ _ g0
  obtain ⟨z1, r1, _⟩ := h1 H enc w base spare held n _ _ g1
  obtain ⟨z2, r2, _⟩ := h2 H enc w base spare held n _ _ g2
  obtain ⟨z, hz⟩ := mk _ _ _ _ _ _ _ r0 r1 r2
  refine ⟨z, ?_, trivial⟩
  have e : (cs.drop f0.offset).take (P.cellsOf f0.type) ++ ((cs.drop f1.offset).take (P.cellsOf f1.type) ++ (cs.drop f2.offset).take (P.cellsOf f2.type)) = cs := by
   rw [hf0, hf1, hf2, s0, s1, s2, List.drop_zero]
   have e2' : (cs.drop (e0.size + e1.size)).take e2.size = (cs.drop e0.size).drop e1.size := by
    rw [List.drop_drop]; exact List.take_of_length_le (by rw [List.length_drop]; omega)
   rw [e2', List.take_append_drop, List.take_append_drop]
  rw [e] at hz; exact hz
end
end Go.Sw

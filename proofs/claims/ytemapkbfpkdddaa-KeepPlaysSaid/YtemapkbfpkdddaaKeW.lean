/- The document's thing, given up into one block: its rows are trees that nobody writes. No conditions. -/
import Derived.Test.YtemapkbfpkdddaaKeQ
set_option linter.all false
namespace Go.Fc
open Go
theorem own_over {B H : Hp} {e : TypeId} {sz yb : Nat} {a : AV} {css : List (List AV)} {R : Row} (h : Own B H e sz a css) (hy : H yb = some R) (hne : R.elem ≠ e) : Own (B.put yb R) H e sz a css := by
  refine ⟨fun c r hc => ?_, h.2.1, ?_⟩
  · by_cases hcy : c = yb
    · subst hcy; rw [Hp.put_same] at hc; rw [hy]; exact hc
    · rw [Hp.put_ne _ _ hcy] at hc; exact h.1 c r hc
  · rcases h.2.2 with h3 | ⟨b, c, e1, e2, e3, e4⟩
    · exact .inl h3
    · have hb : b ≠ yb := by
        rintro rfl
        rw [hy] at e4
        injection e4 with e4
        subst e4
        exact hne rfl
      exact .inr ⟨b, c, e1, e2, by rw [Hp.put_ne _ _ hb]; exact e3, e4⟩
theorem rle_rows2 {B H : Hp} {tk ti : TypeId} {yb n1 n2 : Nat} {m : Value} {a1 a2 : AV} {c1 c2 : List (List AV)} {f1 f2 : Nat → List AV} (r : AV) (h1 : Own B H ti 1 a1 c1) (h2 : Own B H ti 1 a2 c2) (e1 : c1.length = n1) (g1 : ∀ i, i < n1 → c1.getD i [] = f1 i) (e2 : c2.length = n2) (g2 : ∀ i, i < n2 → c2.getD i [] = f2 i)
    (hB : B yb = none) (hy : H yb = some ⟨tk, [.raw m, a1, a2], 3⟩) (hne : tk ≠ ti) : RLe r H r (B.put yb ⟨tk, [.raw m, .sl false 1 n1 f1, .sl false 1 n2 f2], 3⟩) := fun w v hw hv => by
  have hs := h1.1
  have ex : Ext w H w (B.put yb ⟨tk, [.raw m, .sl false 1 n1 f1, .sl false 1 n2 f2], 3⟩) := ⟨rfl, rfl, rfl, Nat.le_refl _, fun b _ hn => ⟨rfl, by
    rw [Hp.put_none]
    exact ⟨(by rintro rfl; rw [hy] at hn; cases hn), hs.none hn⟩⟩⟩
  have ex2 : ∀ R R' : Row, Ext w (B.put yb R) w (B.put yb R') := fun R R' => ⟨rfl, rfl, rfl, Nat.le_refl _, fun b _ hn => ⟨rfl, by rw [Hp.put_none] at hn ⊢; exact hn⟩⟩
  refine ⟨fun c row hc => ?_, hv.ext ex, ex⟩
  by_cases hcy : c = yb
  · subst hcy
    rw [Hp.put_same] at hc
    cases hc
    obtain ⟨cur, hh, hsz, hl, hr⟩ := hw c _ hy
    refine ⟨cur, hh, hsz, by simp, fun i a u ha hu => ?_⟩
    match i, ha with
    | 0, ha => cases ha; exact (hr 0 _ u rfl hu).ext ex
    | 1, ha =>
      cases ha
      obtain ⟨_, g, _⟩ := (own_over h1 hy hne).freeze e1 g1 w u hw (hr 1 _ u rfl hu)
      exact g.ext (ex2 _ _)
    | 2, ha =>
      cases ha
      obtain ⟨_, g, _⟩ := (own_over h2 hy hne).freeze e2 g2 w u hw (hr 2 _ u rfl hu)
      exact g.ext (ex2 _ _)
    | i + 3, ha => simp at ha
  · rw [Hp.put_ne _ _ hcy] at hc
    obtain ⟨cur, hh, hsz, hl, hr⟩ := hw c row (hs _ _ hc)
    exact ⟨cur, hh, hsz, hl, fun i a u ha hu => (hr i a u ha hu).ext ex⟩
theorem own_keep {B H H' : Hp} {e : TypeId} {sz : Nat} {a : AV} {css : List (List AV)} (h : Own B H e sz a css) (hs : B.Sub H') (hk : ∀ c r, H c = some r → r.elem = e → H' c = some r) : Own B H' e sz a css := by
  refine ⟨hs, h.2.1, ?_⟩
  rcases h.2.2 with h3 | ⟨b, c, e1, e2, e3, e4⟩
  · exact .inl h3
  · exact .inr ⟨b, c, e1, e2, e3, hk _ _ e4 rfl⟩
end Go.Fc

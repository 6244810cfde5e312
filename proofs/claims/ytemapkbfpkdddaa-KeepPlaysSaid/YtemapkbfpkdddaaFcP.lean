/- More on rows of one's own: an append in place, a thing behind a pointer that holds such a row. No conditions. -/
import Derived.Test.YtemapkbfpkdddaaFcN
set_option linter.all false
namespace Go.Fc
open Go
section
variable {P : Program} {H : Hp}
theorem append_in {t e : TypeId} {sz b i n c : Nat} {r : Row} {x : AV} {ys : List (List AV)} {K : AV → Hp → Prop} (hu : P.underlying t = some (.slice e)) (hsz : szOf P e = some sz) (hb : H b = some r) (hx : Src H sz x ys) (hn : i + ys.length = n) (hfit : n ≤ c)
    (ho : i * sz ≤ r.cells.length) (hrow : n * sz ≤ r.size) (hk : K (.raw (.slice (some ⟨b, 0, none⟩) n c)) (H.put b ⟨r.elem, splice r.cells (i * sz) ys.flatten, r.size⟩)) : AppendVC P t (.raw (.slice (some ⟨b, 0, none⟩) i c)) x H K := by
  subst hn
  intro w va vx ty hw hra hrx
  have hva := raw_inv hra
  subst hva
  obtain ⟨hys, hsrc⟩ := hx
  obtain ⟨A, c', news, rfl, hnews, haddr⟩ := hsrc w vx hw hrx
  have hfl : ys.flatten.length = ys.length * sz := flatten_len fun y hy => (hys y hy).1
  have hnl : news.length = ys.length * sz := by rw [← hnews.1, hfl]
  obtain ⟨w', hst, g1, g2⟩ := storeCells_sound (P := P) (off := i * sz) hw hb hnews (by
    simp only [ones, List.all_eq_true]
    intro u hu'
    obtain ⟨y, hy, huy⟩ := List.mem_flatten.1 hu'
    have := (hys y hy).2
    simp only [ones, List.all_eq_true] at this
    exact this u huy) ho (by rw [hfl, ← Nat.add_mul]; exact hrow)
  refine ⟨w', _, _, _, ?_, hk, g1, .raw _, g2⟩
  have hf : (Builtin.firstCells sz ys.length (.slice A ys.length c')).run P w = .ok news.toArray w := by
    by_cases h0 : ys.length = 0
    · have : news = [] := by have := hnl; rw [h0, Nat.zero_mul] at this; simpa using this
      subst this
      rw [h0]
      cases A <;> simp [Builtin.firstCells, loadCells, loadCellsFrom]
    · obtain ⟨ad, rfl, hcell⟩ := haddr (by omega)
      exact run_firstCells_some (P := P) w sz ys.length ad ys.length c' news hnl hcell
  obtain ⟨i', hi, hisz⟩ : ∃ i, P.info? e = some i ∧ i.size = sz := by
    unfold szOf at hsz
    cases h : P.info? e with
    | none => rw [h] at hsz; cases hsz
    | some i => rw [h] at hsz; exact ⟨i, rfl, by simpa using hsz⟩
  have hadd : (⟨b, 0, none⟩ : Addr).add (i * sz) = ⟨b, i * sz, none⟩ := by rw [add_plain]; simp
  simp [Builtin.append_, run_underlying hu, sizeOf, typeInfo, hi, Builtin.lenOf, hfit, hf, hisz, hadd, hst]
end
theorem VTo.ptr2 {H : Hp} {b : Nat} {r : Row} {cs' : List AV} (h : H b = some r) (hs : VTos H r.cells cs') : VTo H (ptrAt b) (.ip cs') := fun w v h1 h2 => by
  have := raw_inv h2; subst this
  obtain ⟨cur, hh, hs', hl, hr⟩ := h1 b r h
  obtain ⟨hl2, hg⟩ := hs.get
  refine .ip _ ⟨b, 0, none⟩ (fun j => cur.getD j undef) (Array.getElem?_eq_some_iff.1 hh).1 rfl (fun j hj => ?_) (fun j u hu => ?_)
  · rw [add_plain, cell_of b _ cur r.elem (0, 0) hh, Nat.zero_add]
    simp [show j < cur.size by omega]
  · have hj : j < cs'.length := (List.getElem?_eq_some_iff.1 hu).1
    have hj' : j < r.cells.length := by omega
    exact hg j r.cells[j] u (List.getElem?_eq_getElem hj') hu w _ h1 (hr j _ _ (List.getElem?_eq_getElem hj') (by simp [show j < cur.size by omega]))

/-- A struct of a number and a row of one's own, behind a pointer. -/
def KP (B H : Hp) (tk e : TypeId) (sz kb : Nat) (most : Int) (css : List (List AV)) : Prop :=
  B kb = none ∧ ∃ v, H kb = some ⟨tk, [.raw (.int .i64 most), .raw v], 2⟩ ∧ Own B H e sz (.raw v) css
theorem KP.sub {B H : Hp} {tk e : TypeId} {sz kb : Nat} {most : Int} {css : List (List AV)} (h : KP B H tk e sz kb most css) : B.Sub H := by
  obtain ⟨_, v, _, h⟩ := h
  exact h.1
theorem own_put {B H : Hp} {e : TypeId} {sz : Nat} {a : AV} {css : List (List AV)} (h : Own B H e sz a css) {b : Nat} {r : Row} (hb : H b = none) : Own (B.put b r) (H.put b r) e sz a css := by
  obtain ⟨h1, h2, h3⟩ := h
  refine ⟨fun c s hc => ?_, h2, ?_⟩
  · by_cases e : c = b
    · subst e; rw [Hp.put_same] at hc ⊢; exact hc
    · rw [Hp.put_ne _ _ e] at hc ⊢; exact h1 c s hc
  · rcases h3 with h3 | ⟨b', c, e1, e2, e3, e4⟩
    · exact .inl h3
    · have hne : b' ≠ b := Hp.ne_of e4 hb
      exact .inr ⟨b', c, e1, e2, by rw [Hp.put_ne _ _ hne]; exact e3, by rw [Hp.put_ne _ _ hne]; exact e4⟩
/-- A new block that is laid beside it. -/
theorem KP.put {B H : Hp} {tk e : TypeId} {sz kb : Nat} {most : Int} {css : List (List AV)} (h : KP B H tk e sz kb most css) {b : Nat} {r : Row} (hb : H b = none) : KP (B.put b r) (H.put b r) tk e sz kb most css := by
  obtain ⟨h1, v, h2, h3⟩ := h
  have hne : kb ≠ b := Hp.ne_of h2 hb
  exact ⟨by rw [Hp.put_ne _ _ hne]; exact h1, v, by rw [Hp.put_ne _ _ hne]; exact h2, own_put h3 hb⟩
/-- A smaller ground. -/
theorem KP.base {B B' H : Hp} {tk e : TypeId} {sz kb : Nat} {most : Int} {css : List (List AV)} (h : KP B H tk e sz kb most css) (hs : B'.Sub B) : KP B' H tk e sz kb most css := by
  obtain ⟨h1, v, h2, h3, h4, h5⟩ := h
  refine ⟨hs.none h1, v, h2, hs.trans h3, h4, ?_⟩
  rcases h5 with h5 | ⟨b', c, e1, e2, e3, e4⟩
  · exact .inl h5
  · exact .inr ⟨b', c, e1, e2, hs.none e3, e4⟩
/-- Two such things: the other one laid on top. -/
theorem KP.swap {B C H : Hp} {tk e sz kb tk' e' sz' yb} {most most' : Int} {css css' : List (List AV)} (h : KP C H tk e sz kb most css) (k : KP B C tk' e' sz' yb most' css') :
    ∃ D, KP D H tk' e' sz' yb most' css' ∧ KP B D tk e sz kb most css := by
  classical
  obtain ⟨h1, v, h2, h3, h4, h5⟩ := h
  obtain ⟨k1, u, k2, k3, k4, k5⟩ := k
  let D : Hp := fun c => if (c = yb ∨ ∃ m, u = .slice (some ⟨c, 0, none⟩) css'.length m ∧ B c = none ∧ C c = some ⟨e', css'.flatten, m * sz'⟩) then none else H c
  have hD : ∀ c, ¬ (c = yb ∨ ∃ m, u = .slice (some ⟨c, 0, none⟩) css'.length m ∧ B c = none ∧ C c = some ⟨e', css'.flatten, m * sz'⟩) → D c = H c := fun c hc => if_neg hc
  have hDn : ∀ c, (c = yb ∨ ∃ m, u = .slice (some ⟨c, 0, none⟩) css'.length m ∧ B c = none ∧ C c = some ⟨e', css'.flatten, m * sz'⟩) → D c = none := fun c hc => if_pos hc
  have hDH : D.Sub H := fun c r hc => by
    by_cases hm : (c = yb ∨ ∃ m, u = .slice (some ⟨c, 0, none⟩) css'.length m ∧ B c = none ∧ C c = some ⟨e', css'.flatten, m * sz'⟩)
    · rw [hDn c hm] at hc; cases hc
    · rw [hD c hm] at hc; exact hc
  have hC : ∀ c, C c = none → D c = H c := fun c hc => hD c fun hm => by
    rcases hm with rfl | ⟨m, _, _, hm⟩
    · rw [k2] at hc; cases hc
    · rw [hm] at hc; cases hc
  have hBD : B.Sub D := fun c r hc => by
    rw [hD c fun hm => by
      rcases hm with rfl | ⟨m, _, hm, _⟩
      · rw [k1] at hc; cases hc
      · rw [hm] at hc; cases hc]
    exact h3 _ _ (k3 _ _ hc)
  refine ⟨D, ⟨hDn yb (.inl rfl), u, h3 _ _ k2, hDH, k4, ?_⟩, ⟨k3.none h1, v, by rw [hC kb h1]; exact h2, hBD, h4, ?_⟩⟩
  · rcases k5 with k5 | ⟨b', c, e1, e2, e3, e4⟩
    · exact .inl k5
    · injection e1 with e1
      exact .inr ⟨b', c, by rw [e1], e2, hDn b' (.inr ⟨c, e1, e3, e4⟩), h3 _ _ e4⟩
  · rcases h5 with h5 | ⟨b', c, e1, e2, e3, e4⟩
    · exact .inl h5
    · exact .inr ⟨b', c, e1, e2, k3.none e3, by rw [hC b' e3]; exact e4⟩
end Go.Fc

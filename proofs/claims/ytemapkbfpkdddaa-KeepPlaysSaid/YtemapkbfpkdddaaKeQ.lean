/- A thing that keeps, behind its pointer. No conditions. -/
import Derived.Test.YtemapkbfpkdddaaKeP
set_option linter.all false
namespace Go.Fc
open Go
theorem KP.vto {α : Type} [Inhabited α] {enc : α → List AV} {B H : Hp} {tk e : TypeId} {sz kb : Nat} {most : Int} {L : List α} (h : KP B H tk e sz kb most (L.map enc)) : VTo H (ptrAt kb) (.ip [.raw (.int .i64 most), slOf enc sz L]) := by
  obtain ⟨_, v, h2, h3⟩ := h
  exact VTo.ptr2 h2 ⟨VTo.refl _ _, VTo.own h3 (by simp) (fun i hi => by simp [nth, hi]), trivial⟩
theorem own_other {B H : Hp} {e : TypeId} {sz kb : Nat} {a : AV} {css : List (List AV)} {r : Row} (h : Own B H e sz a css) (hk : H kb = some r) (hne : r.elem ≠ e) : ¬ ownsB a kb := by
  rintro ⟨n, c, rfl⟩
  rcases h.2.2 with ⟨_, h | ⟨f, h⟩⟩ | ⟨b, c', e1, _, _, e4⟩
  · cases h
  · cases h
  · injection e1 with e1
    injection e1 with e1
    injection e1 with e1
    injection e1 with e1
    subst e1
    rw [hk] at e4
    injection e4 with e4
    subst e4
    exact hne rfl
theorem Own.raw {B H : Hp} {e : TypeId} {sz : Nat} {a : AV} {css : List (List AV)} (h : Own B H e sz a css) (hc : css ≠ []) : ∃ v, a = .raw v := by
  rcases h.2.2 with ⟨h0, _⟩ | ⟨b, c', e1, _, _, e4⟩
  · exact absurd h0 hc
  · exact ⟨_, e1⟩
theorem KP.mk {B H : Hp} {tk e : TypeId} {sz kb : Nat} {most : Int} {css : List (List AV)} {v : Value} {r : Row} (h : Own B H e sz (.raw v) css) (hB : B kb = none) (hk : H kb = some r) (hr : r.elem = tk) (hne : tk ≠ e) : KP B (H.put kb ⟨tk, [.raw (.int .i64 most), .raw v], 2⟩) tk e sz kb most css := by
  refine ⟨hB, v, Hp.put_same _ _ _, put_own h.1 hB _, h.2.1, ?_⟩
  rcases h.2.2 with h3 | ⟨b, c, e1, e2, e3, e4⟩
  · exact .inl h3
  · have hn : b ≠ kb := by
      rintro rfl
      rw [hk] at e4
      injection e4 with e4
      subst e4
      exact hne hr.symm
    exact .inr ⟨b, c, e1, e2, e3, by rw [Hp.put_ne _ _ hn]; exact e4⟩
/-- What is owned is told by a slice's words. -/
theorem Own.form {B H : Hp} {e : TypeId} {sz : Nat} {v : Value} {css : List (List AV)} (h : Own B H e sz (.raw v) css) : (css = [] ∧ v = .slice none 0 0) ∨ ∃ b c, v = .slice (some ⟨b, 0, none⟩) css.length c ∧ css.length ≤ c ∧ B b = none ∧ H b = some ⟨e, css.flatten, c * sz⟩ := by
  rcases h.2.2 with ⟨h0, h | ⟨f, h⟩⟩ | ⟨b, c, e1, e2⟩
  · injection h with h; exact .inl ⟨h0, h⟩
  · cases h
  · injection e1 with e1; exact .inr ⟨b, c, e1, e2⟩
theorem KP.own {B H : Hp} {tk e : TypeId} {sz kb : Nat} {most m' : Int} {css : List (List AV)} {v : Value} (h : KP B H tk e sz kb most css) (hk : H kb = some ⟨tk, [.raw (.int .i64 m'), .raw v], 2⟩) : Own B H e sz (.raw v) css := by
  obtain ⟨_, u, h2, h3⟩ := h
  rw [hk] at h2
  simp only [Option.some.injEq, Row.mk.injEq, List.cons.injEq, AV.raw.injEq] at h2
  rw [h2.2.1.2.1]
  exact h3
end Go.Fc

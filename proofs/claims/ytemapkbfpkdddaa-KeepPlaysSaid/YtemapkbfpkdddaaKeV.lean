/- A thing of the document that keeps: two rows behind a pointer; two things side by side. No conditions. -/
import Derived.Test.YtemapkbfpkdddaaKeU
import Derived.Test.YtemapkbfpkdddaaKeQ
set_option linter.all false
namespace Go.Fc
open Go
/-- What is left of H without what C has beyond B. -/
noncomputable def less (B C H : Hp) : Hp := by
  classical
  exact fun c => if B c = none ∧ C c ≠ none then none else H c
theorem less_out {B C H : Hp} {c : Nat} (h1 : B c = none) (h2 : C c ≠ none) : less B C H c = none := by
  unfold less; exact if_pos ⟨h1, h2⟩
theorem less_in {B C H : Hp} {c : Nat} (h : C c = none) : less B C H c = H c := by
  unfold less; exact if_neg fun ⟨_, h2⟩ => h2 h
theorem less_base {B C H : Hp} {c : Nat} (h : B c ≠ none) : less B C H c = H c := by
  unfold less; exact if_neg fun ⟨h1, _⟩ => h h1
theorem less_sub {B C H : Hp} : (less B C H).Sub H := fun c r hc => by
  unfold less at hc
  split at hc
  · cases hc
  · exact hc
theorem sub_less {B C H : Hp} (h1 : B.Sub C) (h2 : C.Sub H) : B.Sub (less B C H) := fun c r hc => by
  rw [less_base (by rw [hc]; simp)]
  exact h2 _ _ (h1 _ _ hc)
theorem own_up {B C H : Hp} {e : TypeId} {sz : Nat} {a : AV} {css : List (List AV)} (h : Own B C e sz a css) (hs : C.Sub H) : Own (less B C H) H e sz a css := by
  refine ⟨less_sub, h.2.1, ?_⟩
  rcases h.2.2 with h3 | ⟨b, c, e1, e2, e3, e4⟩
  · exact .inl h3
  · exact .inr ⟨b, c, e1, e2, less_out e3 (by rw [e4]; simp), hs _ _ e4⟩
theorem own_down {B C H : Hp} {e : TypeId} {sz : Nat} {a : AV} {css : List (List AV)} (h : Own C H e sz a css) (hs : B.Sub C) : Own B (less B C H) e sz a css := by
  refine ⟨sub_less hs h.1, h.2.1, ?_⟩
  rcases h.2.2 with h3 | ⟨b, c, e1, e2, e3, e4⟩
  · exact .inl h3
  · exact .inr ⟨b, c, e1, e2, hs.none e3, by rw [less_in e3]; exact e4⟩
def eI (n : Int) : List AV := [.raw (.int .i64 n)]
/-- The document's thing: times, and numbers. -/
def RK (B H : Hp) (tk ti : TypeId) (yb : Nat) (m : Int) (L : List GThingI) : Prop :=
  B yb = none ∧ ∃ v u, H yb = some ⟨tk, [.raw (.int .i64 m), .raw v, .raw u], 3⟩ ∧ Own B H ti 1 (.raw v) ((L.map GThingI.at_).map eI) ∧ Own B H ti 1 (.raw u) ((L.map GThingI.it).map eI)
theorem RK.sub {B H : Hp} {tk ti : TypeId} {yb : Nat} {m : Int} {L : List GThingI} (h : RK B H tk ti yb m L) : B.Sub H := by
  obtain ⟨_, _, _, _, h, _⟩ := h
  exact h.1
theorem RK.vto {B H : Hp} {tk ti : TypeId} {yb : Nat} {m : Int} {L : List GThingI} (h : RK B H tk ti yb m L) : VTo H (ptrAt yb) (.ip [.raw (.int .i64 m), slOf eI 1 (L.map GThingI.at_), slOf eI 1 (L.map GThingI.it)]) := by
  obtain ⟨_, v, u, h1, h2, h3⟩ := h
  exact VTo.ptr2 h1 ⟨VTo.refl _ _, VTo.own h2 (by simp) (fun i hi => by simp at hi; simp [nth, hi]), VTo.own h3 (by simp) (fun i hi => by simp at hi; simp [nth, hi]), trivial⟩
theorem swap_kr {B C H : Hp} {tk e ty ti : TypeId} {sz kb yb : Nat} {most m : Int} {css : List (List AV)} {L : List GThingI} (h : KP C H tk e sz kb most css) (k : RK B C ty ti yb m L) :
    RK (less B C H) H ty ti yb m L ∧ KP B (less B C H) tk e sz kb most css := by
  obtain ⟨h1, v, h2, h3⟩ := h
  obtain ⟨k1, u, u', k2, k3, k4⟩ := k
  exact ⟨⟨less_out k1 (by rw [k2]; simp), u, u', h3.1 _ _ k2, own_up k3 h3.1, own_up k4 h3.1⟩, k3.1.none h1, v, by rw [less_in h1]; exact h2, own_down h3 k3.1⟩
theorem swap_rk {B C H : Hp} {tk e ty ti : TypeId} {sz kb yb : Nat} {most m : Int} {css : List (List AV)} {L : List GThingI} (h : RK C H ty ti yb m L) (k : KP B C tk e sz kb most css) :
    KP (less B C H) H tk e sz kb most css ∧ RK B (less B C H) ty ti yb m L := by
  obtain ⟨h1, u, u', h2, h3, h4⟩ := h
  obtain ⟨k1, v, k2, k3⟩ := k
  exact ⟨⟨less_out k1 (by rw [k2]; simp), v, h3.1 _ _ k2, own_up k3 h3.1⟩, k3.1.none h1, u, u', by rw [less_in h1]; exact h2, own_down h3 k3.1, own_down h4 k3.1⟩
/-- Two rows side by side: the other one on top. -/
theorem own_swap {B C H : Hp} {e e' : TypeId} {sz sz' : Nat} {a a' : AV} {css css' : List (List AV)} (h : Own C H e sz a css) (k : Own B C e' sz' a' css') : Own (less B C H) H e' sz' a' css' ∧ Own B (less B C H) e sz a css := ⟨own_up k h.1, own_down h k.1⟩
end Go.Fc

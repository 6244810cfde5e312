/- The program's thing beside the document's: one is let go of by the other. No conditions. -/
import Derived.Test.YtemapkbfpkdddaaFcP
import Derived.Test.YtemapkbfpkdddaaKeV
set_option linter.all false
namespace Go.Fc
open Go
/-- Without a block. -/
def Hp.del (H : Hp) (b : Nat) : Hp := fun c => if c = b then none else H c
theorem Hp.del_same (H : Hp) (b : Nat) : H.del b b = none := if_pos rfl
theorem Hp.del_ne (H : Hp) {b c : Nat} (h : c ≠ b) : H.del b c = H c := if_neg h
theorem Hp.del_put {H : Hp} {b : Nat} {r : Row} (h : H b = some r) : (H.del b).put b r = H := by
  funext c
  by_cases e : c = b
  · subst e; rw [Hp.put_same, h]
  · rw [Hp.put_ne _ _ e, Hp.del_ne _ e]
theorem Hp.put_comm {H : Hp} {b c : Nat} {r s : Row} (h : b ≠ c) : (H.put b r).put c s = (H.put c s).put b r := by
  funext d
  by_cases e : d = c
  · subst e; rw [Hp.put_same, Hp.put_ne _ _ (Ne.symm h), Hp.put_same]
  · by_cases e2 : d = b
    · subst e2; rw [Hp.put_ne _ _ e, Hp.put_same, Hp.put_same]
    · rw [Hp.put_ne _ _ e, Hp.put_ne _ _ e2, Hp.put_ne _ _ e2, Hp.put_ne _ _ e]
theorem kp_del {B C H : Hp} {tk e : TypeId} {sz kb yb : Nat} {most : Int} {css : List (List AV)} {R : Row} (h : KP C H tk e sz kb most css) (hB : B.Sub C) (hy : B yb = none) (hC : C yb = some R) : KP B (H.del yb) tk e sz kb most css := by
  obtain ⟨h1, v, h2, h3⟩ := h
  have hk : kb ≠ yb := by rintro rfl; rw [hC] at h1; cases h1
  refine ⟨hB.none h1, v, by rw [Hp.del_ne _ hk]; exact h2, fun c r hc => ?_, h3.2.1, ?_⟩
  · have hn : c ≠ yb := by rintro rfl; rw [hy] at hc; cases hc
    rw [Hp.del_ne _ hn]; exact h3.1 _ _ (hB _ _ hc)
  · rcases h3.2.2 with h4 | ⟨b, c, e1, e2, e3, e4⟩
    · exact .inl h4
    · have hn : b ≠ yb := by rintro rfl; rw [hC] at e3; cases e3
      exact .inr ⟨b, c, e1, e2, hB.none e3, by rw [Hp.del_ne _ hn]; exact e4⟩
end Go.Fc

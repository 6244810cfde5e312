/- KeepPlays: the given statement. No conditions. -/
import Derived.Test.YtemapkbfpkdddaaKwPlays
import Derived.Test.YtemapkbfpkdddaaDecK
set_option linter.all false
namespace Go.Proofs.Ytemapkbfpkdddaa
open Go Go.Fc Go.ChangeShapes Go.WideShapes Go.ChangeAt Go.RowKit
set_option maxRecDepth 100000 in
theorem keepPlays_lifted (os : Os) (started : os.Started) (T : Type) (enc : TypeId × Value → T) :
    ReturnsInHanded {} Try.checked os 3 .any (Rows.keepPlaysSpec.pre6 enc Try.prog Try.f3 Rows.keepPlaysRow.domain false) (Rows.keepPlaysSpec.post enc Try.prog Try.f3 false true false false) := by
  refine returnsInHanded_of_change (C := Try.checked) own_Try started (by kernel_rfl) Try.func3
    (ChangeSpec.witness6 (enc := enc) (C := Try.checked) false ⟨#[], #[.int .i64 0, .slice none 0 0], []⟩ 8 (by kernel_rfl) (by kernel_rfl) (by kernel_rfl) (by kernel_rfl)) ?_
  intro W base args ds gs before hval0 hW hcnd _
  have hval : ∀ (j : Nat) t v, Try.f3.params[j]? = some t → args[j]? = some v → Value.okWide Try.prog W .any base t v := hval0
  have hW' := hW
  obtain ⟨p, q, hA0, hV, rfl, hfz, hnd⟩ := hW
  have hA : DataW.TrodAll enc Try.prog W 0 (fun _ => true) true Try.f3.params.toList args.toList ds p := hA0
  rw [Try.params3] at hA hval
  obtain ⟨v0, v1, d0, d1, p0, p1, rfl, rfl, rfl, h0, h1⟩ := trodAll_two hA
  obtain ⟨rfl, rfl⟩ := trodVars_none hV
  obtain ⟨mo, rfl, _, _, _⟩ := open_int Try.underlying3 (hval 0 3 v0 rfl rfl) h0
  obtain ⟨l0, hl0, hr0⟩ := arg_Ops (hval 1 22 v1 rfl rfl) h1
  refine (law_calls (keepPlays_c mo l0 H0 hl0) (relL_cons (.raw _) (relL_one hr0))).mono fun e W' ⟨he, hx⟩ => ⟨_, he, ?_⟩
  exact post_law hW' hx laid_Try (by intro t ht; rw [Try.params3] at ht; simp at ht; rcases ht with rfl | rfl <;> exact ⟨by kernel_rfl, of_decide_eq_true (by kernel_rfl)⟩) (by kernel_rfl) Try.underlying4 rfl rfl rfl rfl
theorem keepPlays_holds : Rows.KeepPlaysSaid :=
  OpenClaim.holds_of_wide 3 Try.f3 rfl rfl rfl rfl rfl rfl rfl ⟨rfl, rfl, rfl, rfl, rfl⟩ rfl rfl rfl rfl rfl (by kernel_rfl) Try.func3 (by kernel_rfl)
    (of_decide_eq_true (by kernel_rfl)) (by unfold Func.isWrapper; first | (rw [if_pos (by decide +kernel)]; kernel_rfl) | (rw [if_neg (by decide +kernel)]; exact ⟨rfl, rfl⟩))
    (fun os started T enc _ => keepPlays_lifted os started T enc)
#print axioms keepPlays_holds
end Go.Proofs.Ytemapkbfpkdddaa

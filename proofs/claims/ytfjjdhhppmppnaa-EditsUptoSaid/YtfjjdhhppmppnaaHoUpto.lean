/- EditsUpto: the given statement. No conditions. -/
import Derived.Test.YtfjjdhhppmppnaaLwUpto
import Derived.Test.YtfjjdhhppmppnaaDecE
set_option linter.all false
namespace Go.Proofs.Ytfjjdhhppmppnaa
open Go Go.Fc Go.ChangeShapes Go.WideShapes Go.ChangeAt Go.RowKit
theorem dec_GCut : Dec Try.prog 38 (fun us => ∃ a : GCut, True ∧ us = eGCut a) :=
  (dec_struct (Ss := [fun us => ∃ n : Int, (Lit.int .i64 n).wf = true ∧ us = [.raw (.int .i64 n)], fun us => ∃ n : Int, (Lit.int .i64 n).wf = true ∧ us = [.raw (.int .i64 n)], fun us => ∃ a : GEdit, True ∧ us = eGEdit a]) Try.underlying38 (by kernel_rfl)
    ⟨dec_int (by kernel_rfl), dec_int (by kernel_rfl), dec_GEdit, trivial⟩).mono (by
    rintro us ⟨_, _, ⟨a, ha, rfl⟩, ⟨_, _, ⟨b, hb, rfl⟩, ⟨_, _, ⟨s, _, rfl⟩, rfl, rfl⟩, rfl⟩, rfl⟩
    exact ⟨⟨a, b, s⟩, trivial, rfl⟩)
set_option maxRecDepth 100000 in
theorem editsUpto_lifted (os : Os) (started : os.Started) (T : Type) (enc : TypeId × Value → T) :
    ReturnsInHanded {} Try.checked os 4 .any (Rows.editsUptoSpec.pre6 enc Try.prog Try.f4 Rows.editsUptoRow.domain false) (Rows.editsUptoSpec.post enc Try.prog Try.f4 false true false false) := by
  refine returnsInHanded_of_change (C := Try.checked) own_Try started (by kernel_rfl) Try.func4
    (ChangeSpec.witness6 (enc := enc) (C := Try.checked) false ⟨#[], #[.slice none 0 0, .agg #[.int .i64 0, .int .i64 0, .int .i64 0, .string ⟨#[]⟩, .int .i64 0, .int .i64 0, .string ⟨#[]⟩]], []⟩ 8 (by kernel_rfl) (by kernel_rfl) (by kernel_rfl) (by kernel_rfl)) ?_
  intro W base args ds gs before hval0 hW hcnd _
  have hval : ∀ (j : Nat) t v, Try.f4.params[j]? = some t → args[j]? = some v → Value.okWide Try.prog W .any base t v := hval0
  have hW' := hW
  obtain ⟨p, q, hA0, hV, rfl, hfz, hnd⟩ := hW
  have hA : DataW.TrodAll enc Try.prog W 0 (fun _ => true) true Try.f4.params.toList args.toList ds p := hA0
  rw [Try.params4] at hA hval
  obtain ⟨v0, v1, d0, d1, p0, p1, rfl, rfl, rfl, h0, h1⟩ := trodAll_two hA
  obtain ⟨rfl, rfl⟩ := trodVars_none hV
  obtain ⟨l0, hr0⟩ := arg_Edits (hval 0 22 v0 rfl rfl) h0
  obtain ⟨us, ⟨x, _, rfl⟩, hr1⟩ := arg_agg Try.underlying38 dec_GCut (hval 1 38 v1 rfl rfl) h1
  refine (law_calls (lawUpto_c l0 x H0) (relL_cons hr0 (relL_one hr1))).mono fun e W' ⟨he, hx⟩ => ⟨_, he, ?_⟩
  exact post_law hW' hx laid_Try (by intro t ht; rw [Try.params4] at ht; simp at ht; rcases ht with rfl | rfl <;> exact ⟨by kernel_rfl, of_decide_eq_true (by kernel_rfl)⟩) (by kernel_rfl) Try.underlying4 rfl rfl rfl rfl
theorem editsUpto_holds : Rows.EditsUptoSaid :=
  OpenClaim.holds_of_wide 4 Try.f4 rfl rfl rfl rfl rfl rfl rfl ⟨rfl, rfl, rfl, rfl, rfl⟩ rfl rfl rfl rfl rfl (by kernel_rfl) Try.func4 (by kernel_rfl)
    (of_decide_eq_true (by kernel_rfl)) (by unfold Func.isWrapper; first | (rw [if_pos (by decide +kernel)]; kernel_rfl) | (rw [if_neg (by decide +kernel)]; exact ⟨rfl, rfl⟩))
    (fun os started T enc _ => editsUpto_lifted os started T enc)
#print axioms editsUpto_holds
end Go.Proofs.Ytfjjdhhppmppnaa

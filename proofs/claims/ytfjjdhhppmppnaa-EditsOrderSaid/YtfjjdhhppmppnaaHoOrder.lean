/- EditsOrder: the given statement. No conditions. -/
import Derived.Test.YtfjjdhhppmppnaaLwOrder
import Derived.Test.YtfjjdhhppmppnaaDecE
set_option linter.all false
namespace Go.Proofs.Ytfjjdhhppmppnaa
open Go Go.Fc Go.ChangeShapes Go.WideShapes Go.ChangeAt Go.RowKit
theorem dec_GThird : Dec Try.prog 24 (fun us => ∃ a : GThird, True ∧ us = eGThird a) :=
  (dec_struct (Ss := [fun us => ∃ a, (∃ l : List GEdit, l.length ≤ 9223372036854775807 ∧ a = slOf eGEdit 5 l) ∧ us = [a], fun us => ∃ n : Int, (Lit.int .i64 n).wf = true ∧ us = [.raw (.int .i64 n)]]) Try.underlying24 (by kernel_rfl)
    ⟨dec_Edits, dec_int (by kernel_rfl), trivial⟩).mono (by
    rintro us ⟨_, _, ⟨_, ⟨l, _, rfl⟩, rfl⟩, ⟨_, _, ⟨b, hb, rfl⟩, rfl, rfl⟩, rfl⟩
    exact ⟨⟨l, b⟩, trivial, rfl⟩)
set_option maxRecDepth 100000 in
theorem editsOrder_lifted (os : Os) (started : os.Started) (T : Type) (enc : TypeId × Value → T) :
    ReturnsInHanded {} Try.checked os 3 .any (Rows.editsOrderSpec.pre6 enc Try.prog Try.f3 Rows.editsOrderRow.domain false) (Rows.editsOrderSpec.post enc Try.prog Try.f3 false true false false) := by
  refine returnsInHanded_of_change (C := Try.checked) own_Try started (by kernel_rfl) Try.func3
    (ChangeSpec.witness6 (enc := enc) (C := Try.checked) false ⟨#[], #[.slice none 0 0, .slice none 0 0, .agg #[.slice none 0 0, .int .i64 0]], []⟩ 8 (by kernel_rfl) (by kernel_rfl) (by kernel_rfl) (by kernel_rfl)) ?_
  intro W base args ds gs before hval0 hW hcnd _
  have hval : ∀ (j : Nat) t v, Try.f3.params[j]? = some t → args[j]? = some v → Value.okWide Try.prog W .any base t v := hval0
  have hW' := hW
  obtain ⟨p, q, hA0, hV, rfl, hfz, hnd⟩ := hW
  have hA : DataW.TrodAll enc Try.prog W 0 (fun _ => true) true Try.f3.params.toList args.toList ds p := hA0
  rw [Try.params3] at hA hval
  obtain ⟨v0, v1, v2, d0, d1, d2, p0, p1, p2, rfl, rfl, rfl, h0, h1, h2⟩ := trodAll_three hA
  obtain ⟨rfl, rfl⟩ := trodVars_none hV
  obtain ⟨l0, hr0⟩ := arg_Edits (hval 0 22 v0 rfl rfl) h0
  obtain ⟨l1, hr1⟩ := arg_Edits (hval 1 22 v1 rfl rfl) h1
  obtain ⟨us, ⟨x, _, rfl⟩, hr2⟩ := arg_agg Try.underlying24 dec_GThird (hval 2 24 v2 rfl rfl) h2
  refine (law_calls (lawOrder_c l0 l1 x H0) (relL_cons hr0 (relL_cons hr1 (relL_one hr2)))).mono fun e W' ⟨he, hx⟩ => ⟨_, he, ?_⟩
  exact post_law hW' hx laid_Try (by intro t ht; rw [Try.params3] at ht; simp at ht; rcases ht with rfl | rfl | rfl <;> exact ⟨by kernel_rfl, of_decide_eq_true (by kernel_rfl)⟩) (by kernel_rfl) Try.underlying4 rfl rfl rfl rfl
theorem editsOrder_holds : Rows.EditsOrderSaid :=
  OpenClaim.holds_of_wide 3 Try.f3 rfl rfl rfl rfl rfl rfl rfl ⟨rfl, rfl, rfl, rfl, rfl⟩ rfl rfl rfl rfl rfl (by kernel_rfl) Try.func3 (by kernel_rfl)
    (of_decide_eq_true (by kernel_rfl)) (by unfold Func.isWrapper; first | (rw [if_pos (by decide +kernel)]; kernel_rfl) | (rw [if_neg (by decide +kernel)]; exact ⟨rfl, rfl⟩))
    (fun os started T enc _ => editsOrder_lifted os started T enc)
#print axioms editsOrder_holds
end Go.Proofs.Ytfjjdhhppmppnaa

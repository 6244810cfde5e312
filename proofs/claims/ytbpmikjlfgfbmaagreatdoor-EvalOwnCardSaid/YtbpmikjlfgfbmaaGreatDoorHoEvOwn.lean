/- EvalOwn: the given statement (the tied card). No conditions. -/
import Derived.Test.YtbpmikjlfgfbmaaGreatDoorLeO
import Derived.Test.YtbpmikjlfgfbmaaGreatDoorEvD
import Derived.Test.YtbpmikjlfgfbmaaGreatDoorTie
import Derived.Test.YtbpmikjlfgfbmaaGreatDoorCards
import Derived.LaidMore
import Derived.OpenShut
import Derived.Stop.Joined
set_option linter.all false
namespace Go.Proofs.YtbpmikjlfgfbmaaGreatDoor
open Go Go.Gd Go.ChangeShapes Go.WideShapes Go.ChangeAt Go.ChangeMaps Go.RowKit
theorem evalOwn_door (os : Os) (args : Array Value) : laidMetH Tryz.prog Rows.evalOwnRow.laid ((World.doorLaid Tryz.prog 62 os).forCall (fun _ _ => 0) ⟨#[], args, []⟩).memory :=
  laidMetH_of_parts3 (fuel := 8) (laidMet_of_run' 8 (by kernel_rfl) (by kernel_rfl)) (by kernel_rfl) (by kernel_rfl)
set_option maxRecDepth 100000 in
theorem evalOwn_lifted (os : Os) (started : os.Started) (T : Type) (enc : TypeId × Value → T) :
    ReturnsInHanded {} Tryz.checked os 7 .any (fun w args => (Rows.evalOwnSpec.pre enc Tryz.prog Tryz.f7 [] false w args ∧ laidMetH Tryz.prog Rows.evalOwnRow.laid w) ∧ sizedMet enc Tryz.prog Tryz.f7 (OpenSpec.ofChange Rows.evalOwnSpec) false w args)
      (Rows.evalOwnSpec.post enc Tryz.prog Tryz.f7 false true false false) := by
  refine returnsInHanded_of_change_and (C := Tryz.checked) (X := fun w _ => laidMetH Tryz.prog Rows.evalOwnRow.laid w) (fun _ _ _ hh h => h.of_heap hh) own_Tryz started (by kernel_rfl) Tryz.func7
    (ChangeSpec.witness_shaped (enc := enc) (C := Tryz.checked) (os := os) (X := fun w _ => laidMetH Tryz.prog Rows.evalOwnRow.laid w) false (World.doorLaid Tryz.prog 62 os) #[.string ⟨#[]⟩, .agg #[.slice none 0 0, .slice none 0 0], .agg #[.int .i64 0, .int .i64 0]] 8 rfl (World.shaped_of_RefB (by kernel_rfl) (by kernel_rfl)) (by kernel_rfl) (by kernel_rfl) (by kernel_rfl) (evalOwn_door os _)) ?_
  intro W base args ds gs before hval0 hW _ _ _ _
  have hval : ∀ (j : Nat) t v, Tryz.f7.params[j]? = some t → args[j]? = some v → Value.okWide Tryz.prog W .any base t v := hval0
  have hW' := hW
  obtain ⟨p, q, hA0, hV, rfl, hfz, hnd⟩ := hW
  have hA : DataW.TrodAll enc Tryz.prog W 0 (fun _ => true) true Tryz.f7.params.toList args.toList ds p := hA0
  rw [Tryz.params7] at hA hval
  obtain ⟨v0, v1, v2, d0, d1, d2, p0, p1, p2, rfl, rfl, rfl, h0, h1, h2⟩ := trodAll_three hA
  obtain ⟨rfl, rfl⟩ := trodVars_none hV
  obtain ⟨a0, rfl, _, _, ha0⟩ := open_string Tryz.underlying9 (hval 0 9 v0 rfl rfl) h0
  obtain ⟨a1, hr1⟩ := arg_Mem (hval 1 25 v1 rfl rfl) h1
  obtain ⟨_, ⟨a2x, a2y, ⟨hwx2, hwy2⟩, rfl⟩, hr2⟩ := arg_arr Tryz.underlying54 (dec_two (k := .i64) Tryz.underlying54 (by kernel_rfl) (by kernel_rfl) (by kernel_rfl)) (hval 2 54 v2 rfl rfl) h2
  refine (law_calls (fun _ _ h => (by cases h)) (evalOwn_c a0 a1 a2x a2y) (relL_cons (.raw _) (relL_cons hr1 (relL_one hr2)))).mono fun e W' ⟨he, hx⟩ => ⟨_, he, ?_⟩
  exact post_law hW' hx laid_Tryz (by intro t ht; rw [Tryz.params7] at ht; simp at ht; rcases ht with rfl | rfl | rfl <;> exact ⟨by kernel_rfl, of_decide_eq_true (by kernel_rfl)⟩) (by kernel_rfl) Tryz.underlying4 rfl rfl rfl rfl
theorem evalOwn_row : Rows.EvalOwnSaid :=
  OpenClaim.holds_of_wide 7 Tryz.f7 rfl rfl rfl rfl rfl rfl rfl ⟨rfl, rfl, rfl, rfl, rfl⟩ rfl rfl rfl rfl rfl (by kernel_rfl) Tryz.func7 (by kernel_rfl)
    (of_decide_eq_true (by kernel_rfl)) (by unfold Func.isWrapper; first | (rw [if_pos (by decide +kernel)]; kernel_rfl) | (rw [if_neg (by decide +kernel)]; exact ⟨rfl, rfl⟩))
    (fun os started T enc _ => evalOwn_lifted os started T enc)
theorem evalOwn_holds : Rows.EvalOwnCardSaid :=
  Claim7.holds_tied_plain_at .later [] _ true _ true
    evalOwn_row (fun _ h => by cases h) (by kernel_rfl) (fun _ h => by cases h) evalOwn_row_tie rfl ⟨rfl, rfl⟩ (by kernel_rfl) rfl
    (fun f fn hf hfn => by
      obtain rfl : f = 7 := Option.some.inj ((show Tryz.prog.funcNamed "furcate/furcatelaw06.EvalOwn" = some 7 by kernel_rfl).symm.trans hf) |>.symm
      obtain rfl : fn = Tryz.f7 := (Option.some.inj (Tryz.func7.symm.trans hfn)).symm
      exact ⟨by kernel_rfl, fun j t ht => by
        rw [Tryz.params7] at ht
        have hm : t ∈ [9, 25, 54] := by simpa using Array.mem_of_getElem? ht
        have hall : ([9, 25, 54].all fun u => !Tryz.prog.wantsStandIn u) = true := by kernel_rfl
        exact (show Tryz.prog.wantsStandIn t = false by simpa using List.all_eq_true.1 hall t hm)⟩)
    (by kernel_rfl)
#print axioms evalOwn_holds
end Go.Proofs.YtbpmikjlfgfbmaaGreatDoor

/- EvalGets: the given statement (the tied card). No conditions. -/
import Derived.Test.YtbpmikjlfgfbmaaGreatDoorLeG
import Derived.Test.YtbpmikjlfgfbmaaGreatDoorEvD
import Derived.Test.YtbpmikjlfgfbmaaGreatDoorTie
import Derived.Test.YtbpmikjlfgfbmaaGreatDoorCards
import Derived.LaidMore
import Derived.OpenShut
import Derived.Stop.Joined
set_option linter.all false
namespace Go.Proofs.YtbpmikjlfgfbmaaGreatDoor
open Go Go.Gd Go.ChangeShapes Go.WideShapes Go.ChangeAt Go.RowKit
theorem evalGets_door (os : Os) (args : Array Value) : laidMetH Tryz.prog Rows.evalGetsRow.laid ((World.doorLaid Tryz.prog 62 os).forCall (fun _ _ => 0) ⟨#[], args, []⟩).memory :=
  laidMetH_of_parts3 (fuel := 8) (laidMet_of_run' 8 (by kernel_rfl) (by kernel_rfl)) (by kernel_rfl) (by kernel_rfl)
set_option maxRecDepth 100000 in
theorem evalGets_lifted (os : Os) (started : os.Started) (T : Type) (enc : TypeId × Value → T) :
    ReturnsInHanded {} Tryz.checked os 5 .any (fun w args => (Rows.evalGetsSpec.pre enc Tryz.prog Tryz.f5 [] false w args ∧ laidMetH Tryz.prog Rows.evalGetsRow.laid w) ∧ sizedMet enc Tryz.prog Tryz.f5 (OpenSpec.ofChange Rows.evalGetsSpec) false w args)
      (Rows.evalGetsSpec.post enc Tryz.prog Tryz.f5 false true false false) := by
  refine returnsInHanded_of_change_and (C := Tryz.checked) (X := fun w _ => laidMetH Tryz.prog Rows.evalGetsRow.laid w) (fun _ _ _ hh h => h.of_heap hh) own_Tryz started (by kernel_rfl) Tryz.func5
    (ChangeSpec.witness_shaped (enc := enc) (C := Tryz.checked) (os := os) (X := fun w _ => laidMetH Tryz.prog Rows.evalGetsRow.laid w) false (World.doorLaid Tryz.prog 62 os) #[.agg #[.slice none 0 0, .slice none 0 0], .int .i64 0, .int .u8 0] 8 rfl (World.shaped_of_RefB (by kernel_rfl) (by kernel_rfl)) (by kernel_rfl) (by kernel_rfl) (by kernel_rfl) (evalGets_door os _)) ?_
  intro W base args ds gs before hval0 hW _ _ _ _
  have hval : ∀ (j : Nat) t v, Tryz.f5.params[j]? = some t → args[j]? = some v → Value.okWide Tryz.prog W .any base t v := hval0
  have hW' := hW
  obtain ⟨p, q, hA0, hV, rfl, hfz, hnd⟩ := hW
  have hA : DataW.TrodAll enc Tryz.prog W 0 (fun _ => true) true Tryz.f5.params.toList args.toList ds p := hA0
  rw [Tryz.params5] at hA hval
  obtain ⟨v0, v1, v2, d0, d1, d2, p0, p1, p2, rfl, rfl, rfl, h0, h1, h2⟩ := trodAll_three hA
  obtain ⟨rfl, rfl⟩ := trodVars_none hV
  obtain ⟨m, hr0⟩ := arg_Mem (hval 0 25 v0 rfl rfl) h0
  obtain ⟨a, rfl, _, _, ha⟩ := open_int Tryz.underlying3 (hval 1 3 v1 rfl rfl) h1
  obtain ⟨t, rfl, _, _, ht⟩ := open_int Tryz.underlying5 (hval 2 5 v2 rfl rfl) h2
  have ha := wf64 ha
  have ht := wf8 ht
  refine (law_calls (evalGets_c m a t ht ha) (relL_cons hr0 (relL_cons (.raw _) (relL_one (.raw _))))).mono fun e W' ⟨he, hx⟩ => ⟨_, he, ?_⟩
  exact post_law hW' hx laid_Tryz (by intro t ht; rw [Tryz.params5] at ht; simp at ht; rcases ht with rfl | rfl | rfl <;> exact ⟨by kernel_rfl, of_decide_eq_true (by kernel_rfl)⟩) (by kernel_rfl) Tryz.underlying4 rfl rfl rfl rfl
theorem evalGets_row : Rows.EvalGetsSaid :=
  OpenClaim.holds_of_wide 5 Tryz.f5 rfl rfl rfl rfl rfl rfl rfl ⟨rfl, rfl, rfl, rfl, rfl⟩ rfl rfl rfl rfl rfl (by kernel_rfl) Tryz.func5 (by kernel_rfl)
    (of_decide_eq_true (by kernel_rfl)) (by unfold Func.isWrapper; first | (rw [if_pos (by decide +kernel)]; kernel_rfl) | (rw [if_neg (by decide +kernel)]; exact ⟨rfl, rfl⟩))
    (fun os started T enc _ => evalGets_lifted os started T enc)
theorem evalGets_holds : Rows.EvalGetsCardSaid :=
  Claim7.holds_tied_plain_at .later [] _ true _ true
    evalGets_row (fun _ h => by cases h) (by kernel_rfl) (fun _ h => by cases h) evalGets_row_tie rfl ⟨rfl, rfl⟩ (by kernel_rfl) rfl
    (fun f fn hf hfn => by
      obtain rfl : f = 5 := Option.some.inj ((show Tryz.prog.funcNamed "furcate/furcatelaw06.EvalGets" = some 5 by kernel_rfl).symm.trans hf) |>.symm
      obtain rfl : fn = Tryz.f5 := (Option.some.inj (Tryz.func5.symm.trans hfn)).symm
      exact ⟨by kernel_rfl, fun j t ht => by
        rw [Tryz.params5] at ht
        have hm : t ∈ [25, 3, 5] := by simpa using Array.mem_of_getElem? ht
        have hall : ([25, 3, 5].all fun u => !Tryz.prog.wantsStandIn u) = true := by kernel_rfl
        exact (show Tryz.prog.wantsStandIn t = false by simpa using List.all_eq_true.1 hall t hm)⟩)
    (by kernel_rfl)
#print axioms evalGets_holds
end Go.Proofs.YtbpmikjlfgfbmaaGreatDoor

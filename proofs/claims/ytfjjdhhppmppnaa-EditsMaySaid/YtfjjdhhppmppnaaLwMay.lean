/- EditsMay tells the truth. No conditions. -/
import Derived.Test.YtfjjdhhppmppnaaSh
set_option linter.all false
namespace Go.Proofs.Ytfjjdhhppmppnaa
open Go Go.Fc
theorem may_is {y : GEdit} {b : Bool} {H : Hp} (h : mayE y = b) : PCall Try.prog 18 [.agg (eGEdit y)] H (.raw (.bool b)) := h ▸ may_c y H
theorem few_one (x : GEdit) (H : Hp) (f : Nat → List AV) (hf : f 0 = eGEdit x) : PCall Try.prog 13 [.sl true 5 1 f] H (slOf eGEdit 5 [cutE x]) :=
  acalls_weak (args' := [slOf eGEdit 5 [x]]) ⟨VLe.sl (fun i hi => by match i, hi with | 0, _ => exact hf), trivial⟩ (few_c [x] H)
theorem mayE_iff (y : GEdit) : mayE y = true ↔ mayV y.v = true ∧ y.v.ty ≠ 4 ∧ 0 ≤ y.at_ ∧ y.at_ ≤ 200 ∧ 1 ≤ (y.name.size : Int) ∧ (y.name.size : Int) ≤ 8 := by
  simp only [mayE, Bool.and_eq_true, decide_eq_true_eq, and_assoc]
theorem mayE_not {y : GEdit} (h : ¬ (mayV y.v = true ∧ y.v.ty ≠ 4 ∧ 0 ≤ y.at_ ∧ y.at_ ≤ 200 ∧ 1 ≤ (y.name.size : Int) ∧ (y.name.size : Int) ≤ 8)) : mayE y = false := by
  rw [← mayE_iff] at h; simpa using h
theorem nth_one {α : Type} [Inhabited α] (a : α) : nth [a] 0 = a := (rfl)
attribute [local go_sem] eGEdit eGValue
set_option maxHeartbeats 800000 in
set_option maxRecDepth 10000 in
theorem lawMay_c (x : GEdit) (H : Hp) : PCall Try.prog 5 [.agg (eGEdit x)] H (.raw (.bool true)) := by
  refine pcall_enter Try.func5 rfl (by simp only [Try.ntmps5, List.length_cons, List.length_nil, Nat.reduceAdd, Nat.reduceSub, List.replicate, List.cons_append, List.nil_append]; rfl) ?_
  repeat' (first
    | refine awp_seq_k fun K hK => ?_
    | (refine awp_region_vcl ?_; simp (disch := first | omega | (apply Hp.ne_of <;> assumption) | fail) only [go_sem, nth_one, wrap_in, cutOff_lt, Hp.put_ne, Int.reduceToNat, Nat.reduceMul, Nat.reduceAdd, Nat.reduceLeDiff, Nat.reduceSub, Nat.reduceEqDiff])
    | (refine hK _ _ ?_; clear hK K)
    | refine awp_block ?_
    | (refine awp_cond rfl (fun hc => ?_) (fun hc => ?_) <;> (try contradiction) <;> (try simp only [Bool.and_eq_true, Bool.or_eq_true, Bool.and_eq_false_iff, Bool.or_eq_false_iff, decide_eq_true_eq, decide_eq_false_iff_not, Bool.not_eq_true', Bool.not_eq_false', Int.not_lt, Int.not_le] at hc))
    | (refine awp_skip ?_; try simp only [go_sem, nth_one])
    | (refine awp_exit ?_; try simp only [go_sem, nth_one, Int.reduceToNat, Nat.reduceMul, Nat.reduceAdd, Nat.reduceLeDiff, Nat.reduceSub, Nat.reduceEqDiff])
    | (refine awp_ret ?_; try simp only [go_sem, nth_one, Int.reduceToNat, Nat.reduceMul, Nat.reduceAdd, Nat.reduceLeDiff, Nat.reduceSub, Nat.reduceEqDiff])
    | (refine vAlloc_intro (by simp only [go_sem, nth_one]) fun b hb => ?_; (try simp only [Hp.put_none] at hb); simp (disch := first | omega | (apply Hp.ne_of <;> assumption) | fail) only [go_sem, nth_one, wrap_in, cutOff_lt, Hp.put_ne, Int.reduceToNat, Nat.reduceMul, Nat.reduceAdd, Nat.reduceLeDiff, Nat.reduceSub, Nat.reduceEqDiff])
    | (refine vBox_intro (by simp only [go_sem, nth_one]) fun b hb => ?_; (try simp only [Hp.put_none] at hb); simp (disch := first | omega | (apply Hp.ne_of <;> assumption) | fail) only [go_sem, nth_one, wrap_in, cutOff_lt, Hp.put_ne, Int.reduceToNat, Nat.reduceMul, Nat.reduceAdd, Nat.reduceLeDiff, Nat.reduceSub, Nat.reduceEqDiff])
    | (refine ap_intro ?_; simp (disch := first | omega | (apply Hp.ne_of <;> assumption) | fail) only [go_sem, nth_one, wrap_in, cutOff_lt, Hp.put_ne, Int.reduceToNat, Nat.reduceMul, Nat.reduceAdd, Nat.reduceLeDiff, Nat.reduceSub, Nat.reduceEqDiff])
    | (refine And.intro (by first | omega | (simp +contextual; done)) ?_)
    | (refine vcall_raw cb_11 (pcall_of (shown_c _) ?_))
    | (refine vcall_raw cb_13 (pcall_of (few_one x _ _ rfl) ?_))
    | (refine vcall_raw cb_18 (pcall_of (may_c (cutE x) _) ?_))
    | (refine ⟨.raw (.bool false), fun hg => ⟨hg, vcall_raw cb_18 (may_is (y := ⟨201, (cutE x).name, (cutE x).v⟩) (mayE_not fun h => absurd (show (201 : Int) ≤ 200 from h.2.2.2.1) (by decide)))⟩, ?_⟩; simp (disch := first | omega | (apply Hp.ne_of <;> assumption) | fail) only [go_sem, nth_one, nth_one, wrap_in, cutOff_lt, Hp.put_ne, Int.reduceToNat, Nat.reduceMul, Nat.reduceAdd, Nat.reduceLeDiff, Nat.reduceSub, Nat.reduceEqDiff])
    | (refine ⟨.raw (.bool false), fun hg => ⟨hg, vcall_raw cb_18 (may_is (y := ⟨-1, (cutE x).name, (cutE x).v⟩) (mayE_not fun h => absurd (show (0 : Int) ≤ -1 from h.2.2.1) (by decide)))⟩, ?_⟩; simp (disch := first | omega | (apply Hp.ne_of <;> assumption) | fail) only [go_sem, nth_one, nth_one, wrap_in, cutOff_lt, Hp.put_ne, Int.reduceToNat, Nat.reduceMul, Nat.reduceAdd, Nat.reduceLeDiff, Nat.reduceSub, Nat.reduceEqDiff])
    | (refine ⟨.raw (.bool false), fun hg => ⟨hg, vcall_raw cb_18 (may_is (y := ⟨(cutE x).at_, ⟨#[]⟩, (cutE x).v⟩) (mayE_not fun h => absurd (show (1 : Int) ≤ ((⟨#[]⟩ : ByteArray).size : Int) from h.2.2.2.2.1) (by decide)))⟩, ?_⟩; simp (disch := first | omega | (apply Hp.ne_of <;> assumption) | fail) only [go_sem, nth_one, nth_one, wrap_in, cutOff_lt, Hp.put_ne, Int.reduceToNat, Nat.reduceMul, Nat.reduceAdd, Nat.reduceLeDiff, Nat.reduceSub, Nat.reduceEqDiff])
    | (refine ⟨.raw (.bool false), fun hg => ⟨hg, vcall_raw cb_18 (may_is (y := ⟨(cutE x).at_, (cutE x).name, ⟨4, (cutE x).v.n, (cutE x).v.s⟩⟩) (mayE_not fun h => h.2.1 rfl))⟩, ?_⟩; simp (disch := first | omega | (apply Hp.ne_of <;> assumption) | fail) only [go_sem, nth_one, nth_one, wrap_in, cutOff_lt, Hp.put_ne, Int.reduceToNat, Nat.reduceMul, Nat.reduceAdd, Nat.reduceLeDiff, Nat.reduceSub, Nat.reduceEqDiff])
    | (refine ⟨.raw (.bool true), fun hg => ⟨hg, vcall_raw cb_18 (may_is (y := ⟨0, (cutE x).name, (cutE x).v⟩) (by rw [mayE_iff] at hc ⊢; exact ⟨hc.1, hc.2.1, (show (0 : Int) ≤ 0 by decide), (show (0 : Int) ≤ 200 by decide), hc.2.2.2.2.1, hc.2.2.2.2.2⟩))⟩, ?_⟩; simp (disch := first | omega | (apply Hp.ne_of <;> assumption) | fail) only [go_sem, nth_one, nth_one, wrap_in, cutOff_lt, Hp.put_ne, Int.reduceToNat, Nat.reduceMul, Nat.reduceAdd, Nat.reduceLeDiff, Nat.reduceSub, Nat.reduceEqDiff])
    | (clear hK K))
  · refine pretw (.inr rfl) rfl ?_; simp only [go_sem]
    exact RLe.drop _ ((Hp.Sub.refl _).put _ hb)
  · refine pretw (.inr rfl) rfl ?_; simp only [go_sem]
    refine RLe.trans (RLe.of_eq _ ?_) (RLe.drop _ ?_)
    · refine rawBool_eq ?_
      rw [mayE_iff] at hc
      obtain ⟨_, h1, h2, h3, h4, h5⟩ := hc
      simp [h1, h2, h3, h4, h5]
    · repeat' (first | exact Hp.Sub.refl _ | refine put_own ?_ ?_ _)
      all_goals (simp [*])
end Go.Proofs.Ytfjjdhhppmppnaa

/- The law's own example. No conditions. -/
import Derived.Test.YtfjjdhhppmppnaaFw
import Derived.Test.YtfjjdhhppmppnaaMg
import Derived.Test.YtfjjdhhppmppnaaRf
import Derived.Test.YtfjjdhhppmppnaaSa
import Derived.Test.YtfjjdhhppmppnaaMe
set_option linter.all false
namespace Go.Proofs.Ytfjjdhhppmppnaa
open Go Go.Fc
theorem shown_row (H : Hp) : PCall Try.prog 14 [slOf eGEdit 5 [atE 1, atE 5], slOf eGEdit 5 [atE 0, atE 1, atE 9]] H (slOf eGEdit 5 [atE 0, atE 1, atE 1, atE 5, atE 9]) := merge_c _ _ _ (by decide) (by decide)
set_option maxHeartbeats 400000 in
set_option maxRecDepth 10000 in
theorem shown_c (H : Hp) : PCall Try.prog 11 [] H (.raw (.bool true)) := by
  refine pcall_enter Try.func11 rfl (by simp only [Try.ntmps11, List.length_cons, List.length_nil, Nat.reduceAdd, Nat.reduceSub, List.replicate, List.cons_append, List.nil_append]; rfl) ?_
  repeat' (first
    | refine awp_seq_k fun K hK => ?_
    | (refine awp_region_vcl ?_; simp (disch := omega) only [go_sem, wrap_in, cutOff_lt, Hp.put_ne, Int.reduceToNat, Nat.reduceMul, Nat.reduceAdd, Nat.reduceLeDiff, Nat.reduceSub, Nat.reduceEqDiff])
    | (refine hK _ _ ?_; clear hK K)
    | refine awp_block ?_
    | (refine awp_cond rfl (fun hc => ?_) (fun hc => ?_) <;> (try contradiction) <;> (try simp only [Bool.and_eq_true, Bool.or_eq_true, Bool.and_eq_false_iff, Bool.or_eq_false_iff, decide_eq_true_eq, decide_eq_false_iff_not, Bool.not_eq_true', Bool.not_eq_false', Int.not_lt, Int.not_le] at hc))
    | (refine awp_skip ?_; try simp only [go_sem])
    | (refine awp_exit ?_; try simp only [go_sem, Int.reduceToNat, Nat.reduceMul, Nat.reduceAdd, Nat.reduceLeDiff, Nat.reduceSub, Nat.reduceEqDiff])
    | (refine awp_ret ?_; try simp only [go_sem, Int.reduceToNat, Nat.reduceMul, Nat.reduceAdd, Nat.reduceLeDiff, Nat.reduceSub, Nat.reduceEqDiff])
    | (refine vAlloc_intro (by simp only [go_sem]) fun b hb => ?_; (try simp only [Hp.put_none] at hb); simp (disch := omega) only [go_sem, wrap_in, cutOff_lt, Hp.put_ne, Int.reduceToNat, Nat.reduceMul, Nat.reduceAdd, Nat.reduceLeDiff, Nat.reduceSub, Nat.reduceEqDiff])
    | (refine vBox_intro (by simp only [go_sem]) fun b hb => ?_; (try simp only [Hp.put_none] at hb); simp (disch := omega) only [go_sem, wrap_in, cutOff_lt, Hp.put_ne, Int.reduceToNat, Nat.reduceMul, Nat.reduceAdd, Nat.reduceLeDiff, Nat.reduceSub, Nat.reduceEqDiff])
    | (refine ap_intro ?_; simp (disch := omega) only [go_sem, wrap_in, cutOff_lt, Hp.put_ne, Int.reduceToNat, Nat.reduceMul, Nat.reduceAdd, Nat.reduceLeDiff, Nat.reduceSub, Nat.reduceEqDiff])
    | (refine And.intro (by first | omega | (simp +contextual; done) | (simp +contextual; intros; omega)) ?_)
    | (refine vcall_raw cb_33 (acalls_weak (args' := [slOf (fun n => [.raw (.int .i64 n)]) 1 [1, 5]]) ⟨VLe.sl (fun i hi => by match i, hi with | 0, _ => rfl | 1, _ => rfl), trivial⟩ (pcall_of (at_c _ _ (by decide)) ?_)))
    | (refine vcall_raw cb_33 (acalls_weak (args' := [slOf (fun n => [.raw (.int .i64 n)]) 1 [0, 1, 9]]) ⟨VLe.sl (fun i hi => by match i, hi with | 0, _ => rfl | 1, _ => rfl | 2, _ => rfl), trivial⟩ (pcall_of (at_c _ _ (by decide)) ?_)))
    | (refine vcall_raw cb_14 (pcall_of (shown_row _) ?_))
    | (clear hK K))
  refine pret (.inr rfl) rfl ?_; simp only [go_sem]
  rfl
end Go.Proofs.Ytfjjdhhppmppnaa

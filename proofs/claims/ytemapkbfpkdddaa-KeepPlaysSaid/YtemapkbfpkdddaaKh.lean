/- The law's own example of what is kept. No conditions. -/
import Derived.Test.YtemapkbfpkdddaaKgS
import Derived.KernelRfl
set_option linter.all false
namespace Go.Proofs.Ytemapkbfpkdddaa
open Go Go.Fc
def exK : List GThingS := putK GThingS.at_ 2 (putK GThingS.at_ 2 (putK GThingS.at_ 2 [] ⟨0, ⟨#[97]⟩⟩) ⟨9, ⟨#[98]⟩⟩) ⟨4, ⟨#[99]⟩⟩
theorem exK_is : exK = [⟨0, ⟨#[97]⟩⟩, ⟨9, ⟨#[98]⟩⟩] := by decide +kernel
theorem exK_tell : tellS exK 8 = .tup [.raw (.int .i64 0), .raw (.string ⟨#[97]⟩), .raw (.bool true)] := by
  have e : bestK GThingS.at_ exK 8 = 1 := by decide +kernel
  unfold tellS
  rw [e, exK_is]
  rfl
set_option maxHeartbeats 400000 in
set_option maxRecDepth 10000 in
theorem kshown_c (H : Hp) : PCall Try.prog 4 [] H (.raw (.bool true)) := by
  have r1 : RiseK GThingS.at_ [] := List.Pairwise.nil
  have r2 := putK_rise (most := 2) (e := ⟨0, ⟨#[97]⟩⟩) r1
  have r3 := putK_rise (most := 2) (e := ⟨9, ⟨#[98]⟩⟩) r2
  have r4 := putK_rise (most := 2) (e := ⟨4, ⟨#[99]⟩⟩) r3
  have l2 := (putK_len (key := GThingS.at_) 2 [] ⟨0, ⟨#[97]⟩⟩ (by decide) (by decide)).2
  have l3 := (putK_len (key := GThingS.at_) 2 _ ⟨9, ⟨#[98]⟩⟩ (by decide) l2).2
  have l4 := (putK_len (key := GThingS.at_) 2 _ ⟨4, ⟨#[99]⟩⟩ (by decide) l3).2
  refine pcall_enter Try.func4 rfl (by simp only [Try.ntmps4, List.length_cons, List.length_nil, Nat.reduceAdd, Nat.reduceSub, List.replicate, List.cons_append, List.nil_append]; rfl) ?_
  repeat' (first
    | refine awp_seq_k fun K hK => ?_
    | (refine awp_region_vcl ?_; simp (disch := omega) only [go_sem, wrap_in, cutOff_lt, Hp.put_ne, Int.reduceToNat, Nat.reduceMul, Nat.reduceAdd, Nat.reduceLeDiff, Nat.reduceSub, Nat.reduceEqDiff])
    | (refine hK _ _ ?_; clear hK K)
    | refine awp_block ?_
    | (refine awp_cond rfl (fun hc => ?_) (fun hc => ?_) <;> (try contradiction) <;> (try simp only [Bool.and_eq_true, Bool.or_eq_true, Bool.and_eq_false_iff, Bool.or_eq_false_iff, decide_eq_true_eq, decide_eq_false_iff_not, Bool.not_eq_true', Bool.not_eq_false', Int.not_lt, Int.not_le] at hc))
    | (refine awp_skip ?_; try simp only [go_sem])
    | (refine awp_exit ?_; try simp only [go_sem, Int.reduceToNat, Nat.reduceMul, Nat.reduceAdd, Nat.reduceLeDiff, Nat.reduceSub, Nat.reduceEqDiff])
    | (refine awp_ret ?_; try simp only [go_sem, Int.reduceToNat, Nat.reduceMul, Nat.reduceAdd, Nat.reduceLeDiff, Nat.reduceSub, Nat.reduceEqDiff])
    | (refine vAlloc_intro (by simp only [go_sem]) fun b hb => ?_; (try simp only [Hp.put_none] at hb); simp (disch := omega) only [go_sem, wrap_in, cutOff_lt, Hp.put_ne, Int.reduceToNat, Nat.reduceMul, Nat.reduceAdd, Nat.reduceLeDiff, Nat.reduceSub, Nat.reduceEqDiff])
    | (refine vBox_intro (by simp only [go_sem]) fun b hb => ?_; (try simp only [Hp.put_none] at hb); simp (disch := omega) only [go_sem, wrap_in, cutOff_lt, Hp.put_ne, Int.reduceToNat, Nat.reduceMul, Nat.reduceAdd, Nat.reduceLeDiff, Nat.reduceSub, Nat.reduceEqDiff])
    | (refine ap_intro ?_; simp (disch := omega) only [go_sem, wrap_in, cutOff_lt, Hp.put_ne, Int.reduceToNat, Nat.reduceMul, Nat.reduceAdd, Nat.reduceLeDiff, Nat.reduceSub, Nat.reduceEqDiff])
    | (refine And.intro (by first | omega | (simp +contextual; done) | (simp +contextual; intros; omega)) ?_)
    | (refine vcall_raw cb_15 ((newS_c 2 _).mono ?_); rintro r H1 ⟨kb, rfl, hK1⟩; simp only [Int.reduceLT, if_false] at hK1; simp (disch := omega) only [go_sem, wrap_in, cutOff_lt, Hp.put_ne, Int.reduceToNat, Nat.reduceMul, Nat.reduceAdd, Nat.reduceLeDiff, Nat.reduceSub, Nat.reduceEqDiff])
    | (refine vcall_raw cb_16 ((putS_c (t := 0) (x := ⟨#[97]⟩) hK1 r1 (by simp) (by decide)).mono ?_); rintro r H2 ⟨rfl, hK2⟩)
    | (refine vcall_raw cb_16 ((putS_c (t := 9) (x := ⟨#[98]⟩) hK2 r2 (by omega) (by decide)).mono ?_); rintro r H3 ⟨rfl, hK3⟩)
    | (refine vcall_raw cb_16 ((putS_c (t := 4) (x := ⟨#[99]⟩) hK3 r3 (by omega) (by decide)).mono ?_); rintro r H4 ⟨rfl, hK4⟩; change KPS H H4 kb 2 exK at hK4)
    | (refine vcall_raw cb_17 (pcall_of (pcall_lift (bestS_c exK 2 8 H0 r4 (by change (exK.length : Int) ≤ 2 at l4; omega)) (tellS_flat _ _) ⟨KP.vto hK4, VTo.refl _ _, trivial⟩) ?_); rw [exK_tell])
    | (refine vcall_raw cb_18 (pcall_of (timesS_c hK4 (by change (exK.length : Int) ≤ 2 at l4; omega)) ?_); rw [exK_is])
    | (clear hK K))
  refine pretw (.inr rfl) rfl ?_; simp only [go_sem]
  exact RLe.trans (RLe.of_eq _ rfl) (RLe.drop _ hK4.sub)
end Go.Proofs.Ytemapkbfpkdddaa

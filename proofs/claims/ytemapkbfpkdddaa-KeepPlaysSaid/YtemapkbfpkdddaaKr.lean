/- The document's answer for what is kept: its Ints and Best. No conditions. -/
import Derived.Test.YtemapkbfpkdddaaKgI
import Derived.Test.YtemapkbfpkdddaaKeR
set_option linter.all false
namespace Go.Proofs.Ytemapkbfpkdddaa
open Go Go.Fc
abbrev ints (l : List Int) : AV := slOf (fun n : Int => [.raw (.int .i64 n)]) 1 l
set_option maxHeartbeats 400000 in
set_option maxRecDepth 10000 in
theorem rints_c (a b : List Int) (H : Hp) (h1 : a.length ≤ 1000000) (h2 : b.length ≤ 1000000) : PCall Try.prog 13 [ints a, ints b] H (.raw (.bool (decide (a = b)))) := by
  refine pcall_enter Try.func13 rfl (by simp only [Try.ntmps13, List.length_cons, List.length_nil, Nat.reduceAdd, Nat.reduceSub, List.replicate, List.cons_append, List.nil_append]; rfl) ?_
  repeat' (first
    | refine awp_seq_k fun K hK => ?_
    | (refine awp_region_vcl ?_; simp (disch := omega) only [go_sem, wrap_in, cutOff_lt, Hp.put_ne, Int.reduceToNat, Nat.reduceMul, Nat.reduceAdd, Nat.reduceLeDiff, Nat.reduceSub, Nat.reduceEqDiff])
    | (refine awp_region_eff (id := 6) [0, 1, 2, 3, 4, 5, 6, 7, 8] mixed (by decide +kernel) ?_; simp only [List.map_cons, List.map_nil, atO, List.getD_cons_zero, List.getD_cons_succ]; simp (disch := omega) only [go_sem, wrap_in, cutOff_lt, Hp.put_ne, Int.reduceToNat, Nat.reduceMul, Nat.reduceAdd, Nat.reduceLeDiff, Nat.reduceSub, Nat.reduceEqDiff])
    | (refine hK _ _ ?_; clear hK K)
    | refine awp_block ?_
    | (refine awp_cond rfl (fun hc => ?_) (fun hc => ?_) <;> (try contradiction) <;> (try simp only [Bool.and_eq_true, Bool.or_eq_true, Bool.and_eq_false_iff, Bool.or_eq_false_iff, decide_eq_true_eq, decide_eq_false_iff_not, Bool.not_eq_true', Bool.not_eq_false', Int.not_lt, Int.not_le] at hc))
    | (refine awp_skip ?_; try simp only [go_sem])
    | (refine awp_exit ?_; try simp only [go_sem, Int.reduceToNat, Nat.reduceMul, Nat.reduceAdd, Nat.reduceLeDiff, Nat.reduceSub, Nat.reduceEqDiff])
    | (refine awp_ret ?_; try simp only [go_sem, Int.reduceToNat, Nat.reduceMul, Nat.reduceAdd, Nat.reduceLeDiff, Nat.reduceSub, Nat.reduceEqDiff])
    | (refine vAlloc_intro (by simp only [go_sem]) fun b hb => ?_; (try simp only [Hp.put_none] at hb); simp (disch := omega) only [go_sem, wrap_in, cutOff_lt, Hp.put_ne, Int.reduceToNat, Nat.reduceMul, Nat.reduceAdd, Nat.reduceLeDiff, Nat.reduceSub, Nat.reduceEqDiff])
    | (refine vBox_intro (by simp only [go_sem]) fun b hb => ?_; (try simp only [Hp.put_none] at hb); simp (disch := omega) only [go_sem, wrap_in, cutOff_lt, Hp.put_ne, Int.reduceToNat, Nat.reduceMul, Nat.reduceAdd, Nat.reduceLeDiff, Nat.reduceSub, Nat.reduceEqDiff])
    | (refine ap_intro ?_; simp (disch := omega) only [go_sem, wrap_in, cutOff_lt, Hp.put_ne, Int.reduceToNat, Nat.reduceMul, Nat.reduceAdd, Nat.reduceLeDiff, Nat.reduceSub, Nat.reduceEqDiff])
    | (refine And.intro (by first | omega | (simp +contextual; done) | (simp +contextual; intros; omega)) ?_)
    | (clear hK K))
  · refine pret (.inr rfl) rfl ?_; simp only [go_sem]
    refine rawBool_eq ?_
    rw [eq_comm, decide_eq_false_iff_not]; rintro rfl; exact hc rfl
  · have hKo := hK; clear hK
    have hlen : a.length = b.length := by omega
    refine awp_loop_inv (S := Nat) [(5, 1), (11, 15)] (fun k H' => H' = H ∧ k ≤ a.length ∧ a.take k = b.take k) (fun k => [(5, .raw (.int .i64 k))]) (fun k => a.length - k) 0 ⟨rfl, by omega, by simp⟩ (by (simp only [go_sem, LLe, Nat.reduceAdd, AV.raw.injEq, Value.int.injEq, Value.slice.injEq, Value.pointer.injEq]; try omega)) ?_
    rintro k H' ⟨rfl, hk, heq⟩ Kr hKr
    have HQ := RowKit.Hid.out (p := a.take k = b.take k) heq
    clear heq
    simp (disch := omega) only [go_sem, wrap_in, cutOff_lt, Hp.put_ne, Int.reduceToNat, Nat.reduceMul, Nat.reduceAdd, Nat.reduceLeDiff, Nat.reduceSub, Nat.reduceEqDiff]
    repeat' (first
    | refine awp_seq_k fun K hK => ?_
    | (refine awp_region_vcl ?_; simp (disch := omega) only [go_sem, wrap_in, cutOff_lt, Hp.put_ne, Int.reduceToNat, Nat.reduceMul, Nat.reduceAdd, Nat.reduceLeDiff, Nat.reduceSub, Nat.reduceEqDiff])
    | (refine awp_region_eff (id := 6) [0, 1, 2, 3, 4, 5, 6, 7, 8] mixed (by decide +kernel) ?_; simp only [List.map_cons, List.map_nil, atO, List.getD_cons_zero, List.getD_cons_succ]; simp (disch := omega) only [go_sem, wrap_in, cutOff_lt, Hp.put_ne, Int.reduceToNat, Nat.reduceMul, Nat.reduceAdd, Nat.reduceLeDiff, Nat.reduceSub, Nat.reduceEqDiff])
    | (refine hK _ _ ?_; clear hK K)
    | refine awp_block ?_
    | (refine awp_cond rfl (fun hc => ?_) (fun hc => ?_) <;> (try contradiction) <;> (try simp only [Bool.and_eq_true, Bool.or_eq_true, Bool.and_eq_false_iff, Bool.or_eq_false_iff, decide_eq_true_eq, decide_eq_false_iff_not, Bool.not_eq_true', Bool.not_eq_false', Int.not_lt, Int.not_le] at hc))
    | (refine awp_skip ?_; try simp only [go_sem])
    | (refine awp_exit ?_; try simp only [go_sem, Int.reduceToNat, Nat.reduceMul, Nat.reduceAdd, Nat.reduceLeDiff, Nat.reduceSub, Nat.reduceEqDiff])
    | (refine awp_ret ?_; try simp only [go_sem, Int.reduceToNat, Nat.reduceMul, Nat.reduceAdd, Nat.reduceLeDiff, Nat.reduceSub, Nat.reduceEqDiff])
    | (refine vAlloc_intro (by simp only [go_sem]) fun b hb => ?_; (try simp only [Hp.put_none] at hb); simp (disch := omega) only [go_sem, wrap_in, cutOff_lt, Hp.put_ne, Int.reduceToNat, Nat.reduceMul, Nat.reduceAdd, Nat.reduceLeDiff, Nat.reduceSub, Nat.reduceEqDiff])
    | (refine vBox_intro (by simp only [go_sem]) fun b hb => ?_; (try simp only [Hp.put_none] at hb); simp (disch := omega) only [go_sem, wrap_in, cutOff_lt, Hp.put_ne, Int.reduceToNat, Nat.reduceMul, Nat.reduceAdd, Nat.reduceLeDiff, Nat.reduceSub, Nat.reduceEqDiff])
    | (refine ap_intro ?_; simp (disch := omega) only [go_sem, wrap_in, cutOff_lt, Hp.put_ne, Int.reduceToNat, Nat.reduceMul, Nat.reduceAdd, Nat.reduceLeDiff, Nat.reduceSub, Nat.reduceEqDiff])
    | (refine And.intro (by first | omega | (simp +contextual; done) | (simp +contextual; intros; omega)) ?_)
    | (refine hKo _ _ ?_)
    | (clear hK K))
    · refine pret (.inr rfl) rfl ?_; simp only [go_sem]
      refine rawBool_eq ?_
      rw [eq_comm, decide_eq_false_iff_not]; rintro rfl
      exact hc rfl
    · refine hKr _ _ (next_mk (k + 1) ⟨rfl, by (try simp only); omega, ?_⟩ (by (try simp only); omega) (by (simp only [go_sem, LLe, Nat.reduceAdd, AV.raw.injEq, Value.int.injEq, Value.slice.injEq, Value.pointer.injEq]; try omega)))
      rw [take_nth (l := a) (by omega), take_nth (l := b) (by omega), HQ, hc]
    · refine pret (.inr rfl) rfl ?_; simp only [go_sem]
      refine rawBool_eq ?_
      rw [eq_comm, decide_eq_true_eq]
      rwa [List.take_of_length_le (by omega), List.take_of_length_le (by omega)] at HQ
set_option maxHeartbeats 400000 in
set_option maxRecDepth 10000 in
theorem rbest_c (L : List GThingI) (m t : Int) (H : Hp) (hL : RiseK GThingI.at_ L) (hl : L.length ≤ 1000) : PCall Try.prog 10 [.ip [.raw (.int .i64 m), ints (L.map GThingI.at_), ints (L.map GThingI.it)], .raw (.int .i64 t)] H (tellI L t) := by
  refine pcall_enter Try.func10 rfl (by simp only [Try.ntmps10, List.length_cons, List.length_nil, Nat.reduceAdd, Nat.reduceSub, List.replicate, List.cons_append, List.nil_append]; rfl) ?_
  repeat' (first
    | refine awp_seq_k fun K hK => ?_
    | (refine awp_region_vcl ?_; simp (disch := first | omega | (apply Hp.ne_of <;> assumption) | fail) only [go_sem, List.length_map, wrap_in, cutOff_lt, Hp.put_ne, Int.reduceToNat, Nat.reduceMul, Nat.reduceAdd, Nat.reduceLeDiff, Nat.reduceSub, Nat.reduceEqDiff])
    | (refine awp_region_eff (id := 5) [0, 1, 2, 3, 4, 5, 6, 7, 8, 9, 10, 11, 12, 13, 14, 15, 16] mixed (by decide +kernel) ?_; simp only [List.map_cons, List.map_nil, atO, List.getD_cons_zero, List.getD_cons_succ]; simp (disch := first | omega | (apply Hp.ne_of <;> assumption) | fail) only [go_sem, List.length_map, wrap_in, cutOff_lt, Hp.put_ne, Int.reduceToNat, Nat.reduceMul, Nat.reduceAdd, Nat.reduceLeDiff, Nat.reduceSub, Nat.reduceEqDiff])
    | (refine hK _ _ ?_; clear hK K)
    | refine awp_block ?_
    | (refine awp_cond rfl (fun hc => ?_) (fun hc => ?_) <;> (try contradiction) <;> (try simp only [Bool.and_eq_true, Bool.or_eq_true, Bool.and_eq_false_iff, Bool.or_eq_false_iff, decide_eq_true_eq, decide_eq_false_iff_not, Bool.not_eq_true', Bool.not_eq_false', Int.not_lt, Int.not_le] at hc))
    | (refine awp_skip ?_; try simp only [go_sem, List.length_map])
    | (refine awp_exit ?_; try simp only [go_sem, List.length_map, Int.reduceToNat, Nat.reduceMul, Nat.reduceAdd, Nat.reduceLeDiff, Nat.reduceSub, Nat.reduceEqDiff])
    | (refine awp_ret ?_; try simp only [go_sem, List.length_map, Int.reduceToNat, Nat.reduceMul, Nat.reduceAdd, Nat.reduceLeDiff, Nat.reduceSub, Nat.reduceEqDiff])
    | (refine vAlloc_intro (by simp only [go_sem, List.length_map]) fun b hb => ?_; (try simp only [Hp.put_none] at hb); simp (disch := first | omega | (apply Hp.ne_of <;> assumption) | fail) only [go_sem, List.length_map, wrap_in, cutOff_lt, Hp.put_ne, Int.reduceToNat, Nat.reduceMul, Nat.reduceAdd, Nat.reduceLeDiff, Nat.reduceSub, Nat.reduceEqDiff])
    | (refine vBox_intro (by simp only [go_sem, List.length_map]) fun b hb => ?_; (try simp only [Hp.put_none] at hb); simp (disch := first | omega | (apply Hp.ne_of <;> assumption) | fail) only [go_sem, List.length_map, wrap_in, cutOff_lt, Hp.put_ne, Int.reduceToNat, Nat.reduceMul, Nat.reduceAdd, Nat.reduceLeDiff, Nat.reduceSub, Nat.reduceEqDiff])
    | (refine ap_intro ?_; simp (disch := first | omega | (apply Hp.ne_of <;> assumption) | fail) only [go_sem, List.length_map, wrap_in, cutOff_lt, Hp.put_ne, Int.reduceToNat, Nat.reduceMul, Nat.reduceAdd, Nat.reduceLeDiff, Nat.reduceSub, Nat.reduceEqDiff])
    | (refine And.intro (by first | omega | (simp +contextual; done) | (simp +contextual; intros; omega)) ?_)
    | (clear hK K))
  have hKo := hK; clear hK
  refine awp_loop_inv (S := Nat) [(7, 1), (14, 27)] (fun c H' => H' = H ∧ c ≤ L.length ∧ RowKit.Hid (∀ p, c ≤ p → p < L.length → t < (nth L p).at_)) (fun c => [(7, .raw (.int .i64 ((c : Int) - 1)))]) (fun c => c) L.length ⟨rfl, by omega, fun p h1 h2 => by omega⟩ (by (simp only [go_sem, LLe, Nat.reduceAdd, AV.raw.injEq, Value.int.injEq, Value.slice.injEq, Value.pointer.injEq]; try omega)) ?_
  rintro c H' ⟨rfl, hc1, hno⟩ Kr hKr
  cases c with
  | zero =>
    have hb : bestK GThingI.at_ L t = 0 := by
      rcases Nat.eq_zero_or_pos (bestK GThingI.at_ L t) with h | h
      · exact h
      · have := bestK_le (key := GThingI.at_) L t
        have h2 := (drop_iff hL t (p := 0) (by omega)).2 h
        have h3 := hno 0 (by omega) (by omega)
        omega
    simp (disch := omega) only [go_sem, wrap_in, cutOff_lt, Hp.put_ne, Int.reduceToNat, Nat.reduceMul, Nat.reduceAdd, Nat.reduceLeDiff, Nat.reduceSub, Nat.reduceEqDiff]
    repeat' (first
    | refine awp_seq_k fun K hK => ?_
    | (refine awp_region_vcl ?_; simp (disch := omega) only [go_sem, wrap_in, cutOff_lt, Hp.put_ne, Int.reduceToNat, Nat.reduceMul, Nat.reduceAdd, Nat.reduceLeDiff, Nat.reduceSub, Nat.reduceEqDiff])
    | (refine awp_region_eff (id := 5) [0, 1, 2, 3, 4, 5, 6, 7, 8, 9, 10, 11, 12, 13, 14, 15, 16] mixed (by decide +kernel) ?_; simp only [List.map_cons, List.map_nil, atO, List.getD_cons_zero, List.getD_cons_succ]; simp (disch := omega) only [go_sem, wrap_in, cutOff_lt, Hp.put_ne, Int.reduceToNat, Nat.reduceMul, Nat.reduceAdd, Nat.reduceLeDiff, Nat.reduceSub, Nat.reduceEqDiff])
    | (refine hK _ _ ?_; clear hK K)
    | refine awp_block ?_
    | (refine awp_cond rfl (fun hc => ?_) (fun hc => ?_) <;> (try contradiction) <;> (try simp only [Bool.and_eq_true, Bool.or_eq_true, Bool.and_eq_false_iff, Bool.or_eq_false_iff, decide_eq_true_eq, decide_eq_false_iff_not, Bool.not_eq_true', Bool.not_eq_false', Int.not_lt, Int.not_le] at hc))
    | (refine awp_skip ?_; try simp only [go_sem])
    | (refine awp_exit ?_; try simp only [go_sem, Int.reduceToNat, Nat.reduceMul, Nat.reduceAdd, Nat.reduceLeDiff, Nat.reduceSub, Nat.reduceEqDiff])
    | (refine awp_ret ?_; try simp only [go_sem, Int.reduceToNat, Nat.reduceMul, Nat.reduceAdd, Nat.reduceLeDiff, Nat.reduceSub, Nat.reduceEqDiff])
    | (refine vAlloc_intro (by simp only [go_sem]) fun b hb => ?_; (try simp only [Hp.put_none] at hb); simp (disch := omega) only [go_sem, wrap_in, cutOff_lt, Hp.put_ne, Int.reduceToNat, Nat.reduceMul, Nat.reduceAdd, Nat.reduceLeDiff, Nat.reduceSub, Nat.reduceEqDiff])
    | (refine vBox_intro (by simp only [go_sem]) fun b hb => ?_; (try simp only [Hp.put_none] at hb); simp (disch := omega) only [go_sem, wrap_in, cutOff_lt, Hp.put_ne, Int.reduceToNat, Nat.reduceMul, Nat.reduceAdd, Nat.reduceLeDiff, Nat.reduceSub, Nat.reduceEqDiff])
    | (refine ap_intro ?_; simp (disch := omega) only [go_sem, wrap_in, cutOff_lt, Hp.put_ne, Int.reduceToNat, Nat.reduceMul, Nat.reduceAdd, Nat.reduceLeDiff, Nat.reduceSub, Nat.reduceEqDiff])
    | (refine And.intro (by first | omega | (simp +contextual; done) | (simp +contextual; intros; omega)) ?_)
    | (exfalso; omega)
    | (refine hKo _ _ ?_)
    | (clear hK K))
    rw [show tellI L t = .tup [.raw (.int .i64 0), .raw (.int .i64 0), .raw (.bool false)] from by rw [tellI, if_pos hb]]
    refine pret (.inr rfl) rfl ?_; simp only [go_sem]
  | succ c =>
    have e1 : ((c + 1 : Nat) : Int) - 1 = c := by omega
    rw [e1]
    simp (disch := omega) only [go_sem, wrap_in, cutOff_lt, Hp.put_ne, Int.reduceToNat, Nat.reduceMul, Nat.reduceAdd, Nat.reduceLeDiff, Nat.reduceSub, Nat.reduceEqDiff]
    repeat' (first
    | refine awp_seq_k fun K hK => ?_
    | (refine awp_region_vcl ?_; simp (disch := first | omega | (apply Hp.ne_of <;> assumption) | fail) only [go_sem, nth_map, List.length_map, wrap_in, cutOff_lt, Hp.put_ne, Int.reduceToNat, Nat.reduceMul, Nat.reduceAdd, Nat.reduceLeDiff, Nat.reduceSub, Nat.reduceEqDiff])
    | (refine awp_region_eff (id := 5) [0, 1, 2, 3, 4, 5, 6, 7, 8, 9, 10, 11, 12, 13, 14, 15, 16] mixed (by decide +kernel) ?_; simp only [List.map_cons, List.map_nil, atO, List.getD_cons_zero, List.getD_cons_succ]; simp (disch := first | omega | (apply Hp.ne_of <;> assumption) | fail) only [go_sem, nth_map, List.length_map, wrap_in, cutOff_lt, Hp.put_ne, Int.reduceToNat, Nat.reduceMul, Nat.reduceAdd, Nat.reduceLeDiff, Nat.reduceSub, Nat.reduceEqDiff])
    | (refine hK _ _ ?_; clear hK K)
    | refine awp_block ?_
    | (refine awp_cond rfl (fun hc => ?_) (fun hc => ?_) <;> (try contradiction) <;> (try simp only [Bool.and_eq_true, Bool.or_eq_true, Bool.and_eq_false_iff, Bool.or_eq_false_iff, decide_eq_true_eq, decide_eq_false_iff_not, Bool.not_eq_true', Bool.not_eq_false', Int.not_lt, Int.not_le] at hc))
    | (refine awp_skip ?_; try simp only [go_sem, nth_map, List.length_map])
    | (refine awp_exit ?_; try simp only [go_sem, nth_map, List.length_map, Int.reduceToNat, Nat.reduceMul, Nat.reduceAdd, Nat.reduceLeDiff, Nat.reduceSub, Nat.reduceEqDiff])
    | (refine awp_ret ?_; try simp only [go_sem, nth_map, List.length_map, Int.reduceToNat, Nat.reduceMul, Nat.reduceAdd, Nat.reduceLeDiff, Nat.reduceSub, Nat.reduceEqDiff])
    | (refine vAlloc_intro (by simp only [go_sem, nth_map, List.length_map]) fun b hb => ?_; (try simp only [Hp.put_none] at hb); simp (disch := first | omega | (apply Hp.ne_of <;> assumption) | fail) only [go_sem, nth_map, List.length_map, wrap_in, cutOff_lt, Hp.put_ne, Int.reduceToNat, Nat.reduceMul, Nat.reduceAdd, Nat.reduceLeDiff, Nat.reduceSub, Nat.reduceEqDiff])
    | (refine vBox_intro (by simp only [go_sem, nth_map, List.length_map]) fun b hb => ?_; (try simp only [Hp.put_none] at hb); simp (disch := first | omega | (apply Hp.ne_of <;> assumption) | fail) only [go_sem, nth_map, List.length_map, wrap_in, cutOff_lt, Hp.put_ne, Int.reduceToNat, Nat.reduceMul, Nat.reduceAdd, Nat.reduceLeDiff, Nat.reduceSub, Nat.reduceEqDiff])
    | (refine ap_intro ?_; simp (disch := first | omega | (apply Hp.ne_of <;> assumption) | fail) only [go_sem, nth_map, List.length_map, wrap_in, cutOff_lt, Hp.put_ne, Int.reduceToNat, Nat.reduceMul, Nat.reduceAdd, Nat.reduceLeDiff, Nat.reduceSub, Nat.reduceEqDiff])
    | (refine And.intro (by first | omega | (simp +contextual; done) | (simp +contextual; intros; omega)) ?_)
    | (refine hKo _ _ ?_)
    | (clear hK K))
    · have hb : bestK GThingI.at_ L t = c + 1 := by
        have := bestK_le (key := GThingI.at_) L t
        have h1 := (drop_iff hL t (p := c) (by omega)).1 hc
        rcases Nat.lt_or_ge (c + 1) (bestK GThingI.at_ L t) with h | h
        · have h2 := (drop_iff hL t (p := c + 1) (by omega)).2 h
          have h3 := hno (c + 1) (by omega) (by omega)
          omega
        · omega
      rw [show tellI L t = .tup [.raw (.int .i64 (nth L c).at_), .raw (.int .i64 (nth L c).it), .raw (.bool true)] from by rw [tellI, hb, if_neg (by omega), Nat.add_sub_cancel]]
      refine pret (.inr rfl) rfl ?_; simp only [go_sem]
    · refine hKr _ _ (next_mk c ⟨rfl, by omega, fun p h1 h2 => ?_⟩ (by (try simp only); omega) (by (simp only [go_sem, LLe, Nat.reduceAdd, AV.raw.injEq, Value.int.injEq, Value.slice.injEq, Value.pointer.injEq]; try omega)))
      by_cases e : p = c
      · subst e; exact hc
      · exact hno p (by omega) h2
end Go.Proofs.Ytemapkbfpkdddaa

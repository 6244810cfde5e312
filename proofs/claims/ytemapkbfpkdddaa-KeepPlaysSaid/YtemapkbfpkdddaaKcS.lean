/- slices.Insert of one thing that is kept. No conditions. -/
import Derived.Test.YtemapkbfpkdddaaKbS
set_option linter.all false
namespace Go.Proofs.Ytemapkbfpkdddaa
open Go Go.Fc
set_option maxHeartbeats 400000 in
set_option maxRecDepth 10000 in
theorem insertS_nil {B H : Hp} {a : AV} {f : Nat → List AV} (ha : Own B H 60 2 a []) (hf : (f 0).length = 2 ∧ ones (f 0) = true) (hform : a = nilA ∨ ∃ g, a = .sl true 2 0 g) :
    ACalls Try.prog 24 [a, .raw (.int .i64 0), .sl true 2 1 f] H (fun r H' => Own B H' 60 2 r [f 0] ∧ ∀ c r, H c = some r → ¬ ownsB a c → H' c = some r) := by
  refine acalls_enter Try.func24 rfl (by simp only [Try.ntmps24, List.length_cons, List.length_nil, Nat.reduceAdd, Nat.reduceSub, List.replicate, List.cons_append, List.nil_append]; rfl) ?_
  rcases hform with rfl | ⟨g, rfl⟩
  all_goals
    repeat' (first
    | refine awp_seq_k fun K hK => ?_
    | (refine awp_region_vcl ?_; simp (disch := omega) only [go_sem, wrap_in, cutOff_lt, Hp.put_ne, Int.reduceToNat, Nat.reduceMul, Nat.reduceAdd, Nat.reduceLeDiff, Nat.reduceSub, Nat.reduceEqDiff])
    | (refine awp_region_eff (id := 11) [0, 1, 2, 3, 4, 5, 6, 7, 8] mixed (by decide +kernel) ?_; simp only [List.map_cons, List.map_nil, atO, List.getD_cons_zero, List.getD_cons_succ]; simp (disch := omega) only [go_sem, wrap_in, cutOff_lt, Hp.put_ne, Int.reduceToNat, Nat.reduceMul, Nat.reduceAdd, Nat.reduceLeDiff, Nat.reduceSub, Nat.reduceEqDiff])
    | (refine awp_region_eff (id := 15) [0, 1, 2, 3, 4, 5, 6, 7, 8] mixed (by decide +kernel) ?_; simp only [List.map_cons, List.map_nil, atO, List.getD_cons_zero, List.getD_cons_succ]; simp (disch := omega) only [go_sem, wrap_in, cutOff_lt, Hp.put_ne, Int.reduceToNat, Nat.reduceMul, Nat.reduceAdd, Nat.reduceLeDiff, Nat.reduceSub, Nat.reduceEqDiff])
    | (refine hK _ _ ?_; clear hK K)
    | refine awp_block ?_
    | (refine awp_cond rfl (fun hc => ?_) (fun hc => ?_) <;> (try contradiction) <;> (try simp only [Bool.and_eq_true, Bool.or_eq_true, Bool.and_eq_false_iff, Bool.or_eq_false_iff, decide_eq_true_eq, decide_eq_false_iff_not, Bool.not_eq_true', Bool.not_eq_false', Int.not_lt, Int.not_le] at hc))
    | (refine awp_skip ?_; try simp only [go_sem])
    | (refine awp_exit ?_; try simp only [go_sem, Int.reduceToNat, Nat.reduceMul, Nat.reduceAdd, Nat.reduceLeDiff, Nat.reduceSub, Nat.reduceEqDiff])
    | (refine awp_ret ?_; try simp only [go_sem, Int.reduceToNat, Nat.reduceMul, Nat.reduceAdd, Nat.reduceLeDiff, Nat.reduceSub, Nat.reduceEqDiff])
    | (refine vAlloc_intro (by simp only [go_sem]) fun b hb => ?_; (try simp only [Hp.put_none] at hb); simp (disch := omega) only [go_sem, wrap_in, cutOff_lt, Hp.put_ne, Int.reduceToNat, Nat.reduceMul, Nat.reduceAdd, Nat.reduceLeDiff, Nat.reduceSub, Nat.reduceEqDiff])
    | (refine vBox_intro (by simp only [go_sem]) fun b hb => ?_; (try simp only [Hp.put_none] at hb); simp (disch := omega) only [go_sem, wrap_in, cutOff_lt, Hp.put_ne, Int.reduceToNat, Nat.reduceMul, Nat.reduceAdd, Nat.reduceLeDiff, Nat.reduceSub, Nat.reduceEqDiff])
    | (refine ap_intro ?_; simp (disch := omega) only [go_sem, wrap_in, cutOff_lt, Hp.put_ne, Int.reduceToNat, Nat.reduceMul, Nat.reduceAdd, Nat.reduceLeDiff, Nat.reduceSub, Nat.reduceEqDiff])
    | (refine And.intro (by first | omega | (simp +contextual; done) | (simp +contextual; intros; omega)) ?_)
    | (refine append_own (e := 60) (sz := 2) (ys := [f 0]) un_56 sz_60 (by rw [ze_60]; rfl) ha (src_one rfl hf) (by rw [by_60]; simp) (by simp) ?_; rintro a' H' hO hfr; (try simp only [List.nil_append] at hO))
    | (clear hK K))
  all_goals
    refine ret_mk (.inr rfl) rfl _ _ (RLe.refl _ _) ?_; simp only [go_sem]
    exact ⟨hO, hfr⟩
set_option maxHeartbeats 400000 in
set_option maxRecDepth 10000 in
theorem insertS_raw {B H : Hp} {b c i n : Nat} {f : Nat → List AV} {css : List (List AV)} (hn : css.length = n) (ha : Own B H 60 2 (.raw (.slice (some ⟨b, 0, none⟩) n c)) css) (hc : n ≤ c) (hB : B b = none) (hb : H b = some ⟨60, css.flatten, c * 2⟩) (hf : (f 0).length = 2 ∧ ones (f 0) = true) (hi : i ≤ n) (hl : n ≤ 1000000) :
    ACalls Try.prog 24 [.raw (.slice (some ⟨b, 0, none⟩) n c), .raw (.int .i64 i), .sl true 2 1 f] H (fun r H' => Own B H' 60 2 r (css.take i ++ [f 0] ++ css.drop i) ∧ ∀ c r, H c = some r → c ≠ b → H' c = some r) := by
  refine acalls_enter Try.func24 rfl (by simp only [Try.ntmps24, List.length_cons, List.length_nil, Nat.reduceAdd, Nat.reduceSub, List.replicate, List.cons_append, List.nil_append]; rfl) ?_
  repeat' (first
    | refine awp_seq_k fun K hK => ?_
    | (refine awp_region_vcl ?_; simp (disch := omega) only [go_sem, wrap_in, cutOff_lt, Hp.put_ne, Int.reduceToNat, Nat.reduceMul, Nat.reduceAdd, Nat.reduceLeDiff, Nat.reduceSub, Nat.reduceEqDiff])
    | (refine awp_region_eff (id := 11) [0, 1, 2, 3, 4, 5, 6, 7, 8] mixed (by decide +kernel) ?_; simp only [List.map_cons, List.map_nil, atO, List.getD_cons_zero, List.getD_cons_succ]; simp (disch := omega) only [go_sem, wrap_in, cutOff_lt, Hp.put_ne, Int.reduceToNat, Nat.reduceMul, Nat.reduceAdd, Nat.reduceLeDiff, Nat.reduceSub, Nat.reduceEqDiff])
    | (refine awp_region_eff (id := 15) [0, 1, 2, 3, 4, 5, 6, 7, 8] mixed (by decide +kernel) ?_; simp only [List.map_cons, List.map_nil, atO, List.getD_cons_zero, List.getD_cons_succ]; simp (disch := omega) only [go_sem, wrap_in, cutOff_lt, Hp.put_ne, Int.reduceToNat, Nat.reduceMul, Nat.reduceAdd, Nat.reduceLeDiff, Nat.reduceSub, Nat.reduceEqDiff])
    | (refine hK _ _ ?_; clear hK K)
    | refine awp_block ?_
    | (refine awp_cond rfl (fun hc => ?_) (fun hc => ?_) <;> (try contradiction) <;> (try simp only [Bool.and_eq_true, Bool.or_eq_true, Bool.and_eq_false_iff, Bool.or_eq_false_iff, decide_eq_true_eq, decide_eq_false_iff_not, Bool.not_eq_true', Bool.not_eq_false', Int.not_lt, Int.not_le] at hc))
    | (refine awp_skip ?_; try simp only [go_sem])
    | (refine awp_exit ?_; try simp only [go_sem, Int.reduceToNat, Nat.reduceMul, Nat.reduceAdd, Nat.reduceLeDiff, Nat.reduceSub, Nat.reduceEqDiff])
    | (refine awp_ret ?_; try simp only [go_sem, Int.reduceToNat, Nat.reduceMul, Nat.reduceAdd, Nat.reduceLeDiff, Nat.reduceSub, Nat.reduceEqDiff])
    | (refine vAlloc_intro (by simp only [go_sem]) fun b hb => ?_; (try simp only [Hp.put_none] at hb); simp (disch := omega) only [go_sem, wrap_in, cutOff_lt, Hp.put_ne, Int.reduceToNat, Nat.reduceMul, Nat.reduceAdd, Nat.reduceLeDiff, Nat.reduceSub, Nat.reduceEqDiff])
    | (refine vBox_intro (by simp only [go_sem]) fun b hb => ?_; (try simp only [Hp.put_none] at hb); simp (disch := omega) only [go_sem, wrap_in, cutOff_lt, Hp.put_ne, Int.reduceToNat, Nat.reduceMul, Nat.reduceAdd, Nat.reduceLeDiff, Nat.reduceSub, Nat.reduceEqDiff])
    | (refine ap_intro ?_; simp (disch := omega) only [go_sem, wrap_in, cutOff_lt, Hp.put_ne, Int.reduceToNat, Nat.reduceMul, Nat.reduceAdd, Nat.reduceLeDiff, Nat.reduceSub, Nat.reduceEqDiff])
    | (refine And.intro (by first | omega | (simp +contextual; done) | (simp +contextual; intros; omega)) ?_)
    | (refine append_own (e := 60) (sz := 2) (ys := [f 0]) un_56 sz_60 (by rw [ze_60]; rfl) ha (src_one rfl hf) (by rw [by_60]; simp; omega) (by simp; omega) ?_; rintro a' H' hO hfr)
    | (refine append_zero (e := 60) (sz := 2) (k := n + 1 - i) un_56 ⟨.i64, by kernel_rfl⟩ sz_60 ze_60 rfl rfl hb ha.2.1 (by omega) (by omega) (by rw [by_60]; omega) (by omega) (by omega) ?_; rintro b' c' hb' hc'; simp (disch := omega) only [go_sem, wrap_in, cutOff_lt, Hp.put_ne, Int.reduceToNat, Nat.reduceMul, Nat.reduceAdd, Nat.reduceLeDiff, Nat.reduceSub, Nat.reduceEqDiff])
    | (refine vcall_ext ?_; refine overlaps_apart (fn := Try.f35) (tR := 4) Try.func35 (by kernel_rfl) (by kernel_rfl) (by kernel_rfl) (by kernel_rfl) un_56 sz_60 hb (by simp; omega) (by omega) ?_; simp (disch := omega) only [go_sem, wrap_in, cutOff_lt, Hp.put_ne, Int.reduceToNat, Nat.reduceMul, Nat.reduceAdd, Nat.reduceLeDiff, Nat.reduceSub, Nat.reduceEqDiff])
    | (clear hK K))
  · refine ret_mk (.inr rfl) rfl _ _ (RLe.refl _ _) ?_; simp only [go_sem]
    obtain rfl : i = n := by omega
    refine ⟨?_, fun c' r h1 h2 => hfr c' r h1 ?_⟩
    · rw [List.take_of_length_le (by omega), List.drop_of_length_le (by omega), List.append_nil]
      exact hO
    · rintro ⟨n', c'', e⟩
      cases e
      exact h2 rfl
  · have hlen : ∀ y ∈ css, y.length = 2 := fun y hy => (ha.2.1 y hy).1
    have hbb : b ≠ b' := Hp.ne_of hb hb'
    refine copy_el (e := 60) (m := 1) (i := i) un_56 sz_60 (Hp.put_same _ _ _) (len_rep hlen rfl) (Src.toN (src_one rfl hf)) (by simp; omega) (by simp) rfl (by simp; omega) (by omega) ?_
    simp only [Hp.put_put, List.take_succ_cons, List.take_zero]
    repeat' (first
    | refine awp_seq_k fun K hK => ?_
    | (refine awp_region_vcl ?_; simp (disch := omega) only [go_sem, wrap_in, cutOff_lt, Hp.put_ne, Int.reduceToNat, Nat.reduceMul, Nat.reduceAdd, Nat.reduceLeDiff, Nat.reduceSub, Nat.reduceEqDiff])
    | (refine awp_region_eff (id := 11) [0, 1, 2, 3, 4, 5, 6, 7, 8] mixed (by decide +kernel) ?_; simp only [List.map_cons, List.map_nil, atO, List.getD_cons_zero, List.getD_cons_succ]; simp (disch := omega) only [go_sem, wrap_in, cutOff_lt, Hp.put_ne, Int.reduceToNat, Nat.reduceMul, Nat.reduceAdd, Nat.reduceLeDiff, Nat.reduceSub, Nat.reduceEqDiff])
    | (refine awp_region_eff (id := 15) [0, 1, 2, 3, 4, 5, 6, 7, 8] mixed (by decide +kernel) ?_; simp only [List.map_cons, List.map_nil, atO, List.getD_cons_zero, List.getD_cons_succ]; simp (disch := omega) only [go_sem, wrap_in, cutOff_lt, Hp.put_ne, Int.reduceToNat, Nat.reduceMul, Nat.reduceAdd, Nat.reduceLeDiff, Nat.reduceSub, Nat.reduceEqDiff])
    | (refine hK _ _ ?_; clear hK K)
    | refine awp_block ?_
    | (refine awp_cond rfl (fun hc => ?_) (fun hc => ?_) <;> (try contradiction) <;> (try simp only [Bool.and_eq_true, Bool.or_eq_true, Bool.and_eq_false_iff, Bool.or_eq_false_iff, decide_eq_true_eq, decide_eq_false_iff_not, Bool.not_eq_true', Bool.not_eq_false', Int.not_lt, Int.not_le] at hc))
    | (refine awp_skip ?_; try simp only [go_sem])
    | (refine awp_exit ?_; try simp only [go_sem, Int.reduceToNat, Nat.reduceMul, Nat.reduceAdd, Nat.reduceLeDiff, Nat.reduceSub, Nat.reduceEqDiff])
    | (refine awp_ret ?_; try simp only [go_sem, Int.reduceToNat, Nat.reduceMul, Nat.reduceAdd, Nat.reduceLeDiff, Nat.reduceSub, Nat.reduceEqDiff])
    | (refine vAlloc_intro (by simp only [go_sem]) fun b hb => ?_; (try simp only [Hp.put_none] at hb); simp (disch := omega) only [go_sem, wrap_in, cutOff_lt, Hp.put_ne, Int.reduceToNat, Nat.reduceMul, Nat.reduceAdd, Nat.reduceLeDiff, Nat.reduceSub, Nat.reduceEqDiff])
    | (refine vBox_intro (by simp only [go_sem]) fun b hb => ?_; (try simp only [Hp.put_none] at hb); simp (disch := omega) only [go_sem, wrap_in, cutOff_lt, Hp.put_ne, Int.reduceToNat, Nat.reduceMul, Nat.reduceAdd, Nat.reduceLeDiff, Nat.reduceSub, Nat.reduceEqDiff])
    | (refine ap_intro ?_; simp (disch := omega) only [go_sem, wrap_in, cutOff_lt, Hp.put_ne, Int.reduceToNat, Nat.reduceMul, Nat.reduceAdd, Nat.reduceLeDiff, Nat.reduceSub, Nat.reduceEqDiff])
    | (refine And.intro (by first | omega | (simp +contextual; done) | (simp +contextual; intros; omega)) ?_)
    | (clear hK K))
    refine copy_el (e := 60) (m := n - i) (i := i + 1) (ys := css.drop i) un_56 sz_60 (Hp.put_same _ _ _) (lput_all (len_rep hlen rfl) (by simpa using hf.1)) (src_own (n := n - i) (by rw [Hp.put_ne _ _ hbb]; exact hb) (by simp; omega) (fun y hy => ha.2.1 y (List.mem_of_mem_drop hy)) ?_) (by omega) (by simp; omega) rfl (by rw [lput_len (by simp; omega)]; simp; omega) (by omega) ?_
    · simp only [drop_flatten _ _ hlen]
      rw [List.take_of_length_le]
      rw [flatten_len fun y hy => hlen y (List.mem_of_mem_drop hy)]
      simp; omega
    · rw [Hp.put_put, show (css.drop i).take (n - i) = css.drop i from List.take_of_length_le (by simp; omega), lput_grow hn (by omega)]
      repeat' (first
    | refine awp_seq_k fun K hK => ?_
    | (refine awp_region_vcl ?_; simp (disch := omega) only [go_sem, wrap_in, cutOff_lt, Hp.put_ne, Int.reduceToNat, Nat.reduceMul, Nat.reduceAdd, Nat.reduceLeDiff, Nat.reduceSub, Nat.reduceEqDiff])
    | (refine awp_region_eff (id := 11) [0, 1, 2, 3, 4, 5, 6, 7, 8] mixed (by decide +kernel) ?_; simp only [List.map_cons, List.map_nil, atO, List.getD_cons_zero, List.getD_cons_succ]; simp (disch := omega) only [go_sem, wrap_in, cutOff_lt, Hp.put_ne, Int.reduceToNat, Nat.reduceMul, Nat.reduceAdd, Nat.reduceLeDiff, Nat.reduceSub, Nat.reduceEqDiff])
    | (refine awp_region_eff (id := 15) [0, 1, 2, 3, 4, 5, 6, 7, 8] mixed (by decide +kernel) ?_; simp only [List.map_cons, List.map_nil, atO, List.getD_cons_zero, List.getD_cons_succ]; simp (disch := omega) only [go_sem, wrap_in, cutOff_lt, Hp.put_ne, Int.reduceToNat, Nat.reduceMul, Nat.reduceAdd, Nat.reduceLeDiff, Nat.reduceSub, Nat.reduceEqDiff])
    | (refine hK _ _ ?_; clear hK K)
    | refine awp_block ?_
    | (refine awp_cond rfl (fun hc => ?_) (fun hc => ?_) <;> (try contradiction) <;> (try simp only [Bool.and_eq_true, Bool.or_eq_true, Bool.and_eq_false_iff, Bool.or_eq_false_iff, decide_eq_true_eq, decide_eq_false_iff_not, Bool.not_eq_true', Bool.not_eq_false', Int.not_lt, Int.not_le] at hc))
    | (refine awp_skip ?_; try simp only [go_sem])
    | (refine awp_exit ?_; try simp only [go_sem, Int.reduceToNat, Nat.reduceMul, Nat.reduceAdd, Nat.reduceLeDiff, Nat.reduceSub, Nat.reduceEqDiff])
    | (refine awp_ret ?_; try simp only [go_sem, Int.reduceToNat, Nat.reduceMul, Nat.reduceAdd, Nat.reduceLeDiff, Nat.reduceSub, Nat.reduceEqDiff])
    | (refine vAlloc_intro (by simp only [go_sem]) fun b hb => ?_; (try simp only [Hp.put_none] at hb); simp (disch := omega) only [go_sem, wrap_in, cutOff_lt, Hp.put_ne, Int.reduceToNat, Nat.reduceMul, Nat.reduceAdd, Nat.reduceLeDiff, Nat.reduceSub, Nat.reduceEqDiff])
    | (refine vBox_intro (by simp only [go_sem]) fun b hb => ?_; (try simp only [Hp.put_none] at hb); simp (disch := omega) only [go_sem, wrap_in, cutOff_lt, Hp.put_ne, Int.reduceToNat, Nat.reduceMul, Nat.reduceAdd, Nat.reduceLeDiff, Nat.reduceSub, Nat.reduceEqDiff])
    | (refine ap_intro ?_; simp (disch := omega) only [go_sem, wrap_in, cutOff_lt, Hp.put_ne, Int.reduceToNat, Nat.reduceMul, Nat.reduceAdd, Nat.reduceLeDiff, Nat.reduceSub, Nat.reduceEqDiff])
    | (refine And.intro (by first | omega | (simp +contextual; done) | (simp +contextual; intros; omega)) ?_)
    | (clear hK K))
      refine ret_mk (.inr rfl) rfl _ _ (RLe.refl _ _) ?_; simp only [go_sem]
      exact ⟨⟨ha.1.put _ (ha.1.none hb'), ins_all ha.2.1 hf, .inr ⟨b', c', by simp; omega, by simp; omega, ha.1.none hb', Hp.put_same _ _ _⟩⟩, fun c'' r h1 h2 => by rw [Hp.put_ne _ _ (Hp.ne_of h1 hb')]; exact h1⟩
  · have hlen : ∀ y ∈ css, y.length = 2 := fun y hy => (ha.2.1 y hy).1
    refine copy_el (e := 60) (m := n - i) (i := i + 1) (ys := css.drop i) un_56 sz_60 hb hlen (src_own (n := n - i) hb (by simp; omega) (fun y hy => ha.2.1 y (List.mem_of_mem_drop hy)) ?_) (by omega) (by simp; omega) rfl (by omega) (by omega) ?_
    · simp only [drop_flatten _ _ hlen]
      rw [List.take_of_length_le]
      rw [flatten_len fun y hy => hlen y (List.mem_of_mem_drop hy)]
      simp; omega
    rw [show (css.drop i).take (n - i) = css.drop i from List.take_of_length_le (by simp; omega)]
    repeat' (first
    | refine awp_seq_k fun K hK => ?_
    | (refine awp_region_vcl ?_; simp (disch := omega) only [go_sem, wrap_in, cutOff_lt, Hp.put_ne, Int.reduceToNat, Nat.reduceMul, Nat.reduceAdd, Nat.reduceLeDiff, Nat.reduceSub, Nat.reduceEqDiff])
    | (refine awp_region_eff (id := 11) [0, 1, 2, 3, 4, 5, 6, 7, 8] mixed (by decide +kernel) ?_; simp only [List.map_cons, List.map_nil, atO, List.getD_cons_zero, List.getD_cons_succ]; simp (disch := omega) only [go_sem, wrap_in, cutOff_lt, Hp.put_ne, Int.reduceToNat, Nat.reduceMul, Nat.reduceAdd, Nat.reduceLeDiff, Nat.reduceSub, Nat.reduceEqDiff])
    | (refine awp_region_eff (id := 15) [0, 1, 2, 3, 4, 5, 6, 7, 8] mixed (by decide +kernel) ?_; simp only [List.map_cons, List.map_nil, atO, List.getD_cons_zero, List.getD_cons_succ]; simp (disch := omega) only [go_sem, wrap_in, cutOff_lt, Hp.put_ne, Int.reduceToNat, Nat.reduceMul, Nat.reduceAdd, Nat.reduceLeDiff, Nat.reduceSub, Nat.reduceEqDiff])
    | (refine hK _ _ ?_; clear hK K)
    | refine awp_block ?_
    | (refine awp_cond rfl (fun hc => ?_) (fun hc => ?_) <;> (try contradiction) <;> (try simp only [Bool.and_eq_true, Bool.or_eq_true, Bool.and_eq_false_iff, Bool.or_eq_false_iff, decide_eq_true_eq, decide_eq_false_iff_not, Bool.not_eq_true', Bool.not_eq_false', Int.not_lt, Int.not_le] at hc))
    | (refine awp_skip ?_; try simp only [go_sem])
    | (refine awp_exit ?_; try simp only [go_sem, Int.reduceToNat, Nat.reduceMul, Nat.reduceAdd, Nat.reduceLeDiff, Nat.reduceSub, Nat.reduceEqDiff])
    | (refine awp_ret ?_; try simp only [go_sem, Int.reduceToNat, Nat.reduceMul, Nat.reduceAdd, Nat.reduceLeDiff, Nat.reduceSub, Nat.reduceEqDiff])
    | (refine vAlloc_intro (by simp only [go_sem]) fun b hb => ?_; (try simp only [Hp.put_none] at hb); simp (disch := omega) only [go_sem, wrap_in, cutOff_lt, Hp.put_ne, Int.reduceToNat, Nat.reduceMul, Nat.reduceAdd, Nat.reduceLeDiff, Nat.reduceSub, Nat.reduceEqDiff])
    | (refine vBox_intro (by simp only [go_sem]) fun b hb => ?_; (try simp only [Hp.put_none] at hb); simp (disch := omega) only [go_sem, wrap_in, cutOff_lt, Hp.put_ne, Int.reduceToNat, Nat.reduceMul, Nat.reduceAdd, Nat.reduceLeDiff, Nat.reduceSub, Nat.reduceEqDiff])
    | (refine ap_intro ?_; simp (disch := omega) only [go_sem, wrap_in, cutOff_lt, Hp.put_ne, Int.reduceToNat, Nat.reduceMul, Nat.reduceAdd, Nat.reduceLeDiff, Nat.reduceSub, Nat.reduceEqDiff])
    | (refine And.intro (by first | omega | (simp +contextual; done) | (simp +contextual; intros; omega)) ?_)
    | (clear hK K))
    refine copy_el (e := 60) (m := 1) (i := i) un_56 sz_60 (Hp.put_same _ _ _) (lput_all hlen (fun y hy => hlen y (List.mem_of_mem_drop hy))) (Src.toN (src_one rfl hf)) (by simp; omega) (by simp) rfl (by simp [lput]; omega) (by omega) ?_
    simp only [Hp.put_put, List.take_succ_cons, List.take_zero]
    rw [lput_move hn (by omega)]
    repeat' (first
    | refine awp_seq_k fun K hK => ?_
    | (refine awp_region_vcl ?_; simp (disch := omega) only [go_sem, wrap_in, cutOff_lt, Hp.put_ne, Int.reduceToNat, Nat.reduceMul, Nat.reduceAdd, Nat.reduceLeDiff, Nat.reduceSub, Nat.reduceEqDiff])
    | (refine awp_region_eff (id := 11) [0, 1, 2, 3, 4, 5, 6, 7, 8] mixed (by decide +kernel) ?_; simp only [List.map_cons, List.map_nil, atO, List.getD_cons_zero, List.getD_cons_succ]; simp (disch := omega) only [go_sem, wrap_in, cutOff_lt, Hp.put_ne, Int.reduceToNat, Nat.reduceMul, Nat.reduceAdd, Nat.reduceLeDiff, Nat.reduceSub, Nat.reduceEqDiff])
    | (refine awp_region_eff (id := 15) [0, 1, 2, 3, 4, 5, 6, 7, 8] mixed (by decide +kernel) ?_; simp only [List.map_cons, List.map_nil, atO, List.getD_cons_zero, List.getD_cons_succ]; simp (disch := omega) only [go_sem, wrap_in, cutOff_lt, Hp.put_ne, Int.reduceToNat, Nat.reduceMul, Nat.reduceAdd, Nat.reduceLeDiff, Nat.reduceSub, Nat.reduceEqDiff])
    | (refine hK _ _ ?_; clear hK K)
    | refine awp_block ?_
    | (refine awp_cond rfl (fun hc => ?_) (fun hc => ?_) <;> (try contradiction) <;> (try simp only [Bool.and_eq_true, Bool.or_eq_true, Bool.and_eq_false_iff, Bool.or_eq_false_iff, decide_eq_true_eq, decide_eq_false_iff_not, Bool.not_eq_true', Bool.not_eq_false', Int.not_lt, Int.not_le] at hc))
    | (refine awp_skip ?_; try simp only [go_sem])
    | (refine awp_exit ?_; try simp only [go_sem, Int.reduceToNat, Nat.reduceMul, Nat.reduceAdd, Nat.reduceLeDiff, Nat.reduceSub, Nat.reduceEqDiff])
    | (refine awp_ret ?_; try simp only [go_sem, Int.reduceToNat, Nat.reduceMul, Nat.reduceAdd, Nat.reduceLeDiff, Nat.reduceSub, Nat.reduceEqDiff])
    | (refine vAlloc_intro (by simp only [go_sem]) fun b hb => ?_; (try simp only [Hp.put_none] at hb); simp (disch := omega) only [go_sem, wrap_in, cutOff_lt, Hp.put_ne, Int.reduceToNat, Nat.reduceMul, Nat.reduceAdd, Nat.reduceLeDiff, Nat.reduceSub, Nat.reduceEqDiff])
    | (refine vBox_intro (by simp only [go_sem]) fun b hb => ?_; (try simp only [Hp.put_none] at hb); simp (disch := omega) only [go_sem, wrap_in, cutOff_lt, Hp.put_ne, Int.reduceToNat, Nat.reduceMul, Nat.reduceAdd, Nat.reduceLeDiff, Nat.reduceSub, Nat.reduceEqDiff])
    | (refine ap_intro ?_; simp (disch := omega) only [go_sem, wrap_in, cutOff_lt, Hp.put_ne, Int.reduceToNat, Nat.reduceMul, Nat.reduceAdd, Nat.reduceLeDiff, Nat.reduceSub, Nat.reduceEqDiff])
    | (refine And.intro (by first | omega | (simp +contextual; done) | (simp +contextual; intros; omega)) ?_)
    | (clear hK K))
    refine ret_mk (.inr rfl) rfl _ _ (RLe.refl _ _) ?_; simp only [go_sem]
    exact ⟨⟨put_own ha.1 hB _, ins_all ha.2.1 hf, .inr ⟨b, c, by simp; omega, by simp; omega, hB, Hp.put_same _ _ _⟩⟩, fun c'' r h1 h2 => by rw [Hp.put_ne _ _ h2]; exact h1⟩
end Go.Proofs.Ytemapkbfpkdddaa

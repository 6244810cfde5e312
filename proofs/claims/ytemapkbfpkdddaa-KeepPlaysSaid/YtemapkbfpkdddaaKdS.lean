/- slices.Delete of things that are kept. No conditions. -/
import Derived.Test.YtemapkbfpkdddaaKcS
set_option linter.all false
namespace Go.Proofs.Ytemapkbfpkdddaa
open Go Go.Fc
set_option maxHeartbeats 400000 in
set_option maxRecDepth 10000 in
theorem deleteS_raw {B H : Hp} {b c i j n : Nat} {css : List (List AV)} (hn : css.length = n) (ha : Own B H 60 2 (.raw (.slice (some ⟨b, 0, none⟩) n c)) css) (hc : n ≤ c) (hB : B b = none) (hb : H b = some ⟨60, css.flatten, c * 2⟩) (hij : i ≤ j) (hj : j ≤ n) (hl : n ≤ 1000) :
    ACalls Try.prog 26 [.raw (.slice (some ⟨b, 0, none⟩) n c), .raw (.int .i64 i), .raw (.int .i64 j)] H (fun r H' => (∃ v, r = .raw v) ∧ Own B H' 60 2 r (css.take i ++ css.drop j) ∧ ∀ c r, H c = some r → c ≠ b → H' c = some r) := by
  refine acalls_enter Try.func26 rfl (by simp only [Try.ntmps26, List.length_cons, List.length_nil, Nat.reduceAdd, Nat.reduceSub, List.replicate, List.cons_append, List.nil_append]; rfl) ?_
  repeat' (first
    | refine awp_seq_k fun K hK => ?_
    | (refine awp_region_vcl ?_; simp (disch := omega) only [go_sem, wrap_in, cutOff_lt, Hp.put_ne, Int.reduceToNat, Nat.reduceMul, Nat.reduceAdd, Nat.reduceLeDiff, Nat.reduceSub, Nat.reduceEqDiff])
    | (refine awp_region_eff (id := 5) [0, 1, 2, 3, 4, 5, 6, 7] mixed (by decide +kernel) ?_; simp only [List.map_cons, List.map_nil, atO, List.getD_cons_zero, List.getD_cons_succ]; simp (disch := omega) only [go_sem, wrap_in, cutOff_lt, Hp.put_ne, Int.reduceToNat, Nat.reduceMul, Nat.reduceAdd, Nat.reduceLeDiff, Nat.reduceSub, Nat.reduceEqDiff])
    | (refine hK _ _ ?_; clear hK K)
    | refine awp_block ?_
    | (refine awp_cond rfl (fun hc => ?_) (fun hc => ?_) <;> (try contradiction) <;> (try simp only [Bool.and_eq_true, Bool.or_eq_true, Bool.and_eq_false_iff, Bool.or_eq_false_iff, decide_eq_true_eq, decide_eq_false_iff_not, Bool.not_eq_true', Bool.not_eq_false', Int.not_lt, Int.not_le] at hc))
    | (refine awp_skip ?_; try simp only [go_sem])
    | (refine awp_exit ?_; try simp only [go_sem, Int.reduceToNat, Nat.reduceMul, Nat.reduceAdd, Nat.reduceLeDiff, Nat.reduceSub, Nat.reduceEqDiff])
    | (refine awp_ret ?_; try simp only [go_sem, Int.reduceToNat, Nat.reduceMul, Nat.reduceAdd, Nat.reduceLeDiff, Nat.reduceSub, Nat.reduceEqDiff])
    | (refine vAlloc_intro (by simp only [go_sem]) fun b hb => ?_; (try simp only [Hp.put_none] at hb); simp (disch := omega) only [go_sem, wrap_in, cutOff_lt, Hp.put_ne, Int.reduceToNat, Nat.reduceMul, Nat.reduceAdd, Nat.reduceLeDiff, Nat.reduceSub, Nat.reduceEqDiff])
    | (refine vBox_intro (by simp only [go_sem]) fun b hb => ?_; (try simp only [Hp.put_none] at hb); simp (disch := omega) only [go_sem, wrap_in, cutOff_lt, Hp.put_ne, Int.reduceToNat, Nat.reduceMul, Nat.reduceAdd, Nat.reduceLeDiff, Nat.reduceSub, Nat.reduceEqDiff])
    | (refine ap_intro ?_; simp (disch := omega) only [go_sem, wrap_in, cutOff_lt, Hp.put_ne, Int.reduceToNat, Nat.reduceMul, Nat.reduceAdd, Nat.reduceLeDiff, Nat.reduceSub, Nat.reduceEqDiff])
    | (refine And.intro (by first | omega | (simp +contextual; done) | (simp +contextual; intros; omega)) ?_)
    | (clear hK K))
  · refine ret_mk (.inr rfl) rfl _ _ (RLe.refl _ _) ?_; simp only [go_sem]
    obtain rfl : i = j := by omega
    rw [List.take_append_drop]
    exact ⟨⟨_, rfl⟩, ha, fun c r h _ => h⟩
  · have hij' : i < j := by omega
    have hlen : ∀ y ∈ css, y.length = 2 := fun y hy => (ha.2.1 y hy).1
    have hsrc : Src H 2 (.raw (.slice (some ⟨b, cutOff 0 j c 2, none⟩) (n - j) (c - j))) (css.drop j) := by
      have hN : (css.drop j).length = n - j := by simp [hn]
      show SrcN H 2 _ (css.drop j).length (css.drop j)
      rw [hN]
      by_cases e : j = n
      · subst e
        refine src_own (n := 0) hb (by rw [hN]; omega) (fun y hy => ha.2.1 y (List.mem_of_mem_drop hy)) ?_
        rw [Nat.zero_mul, List.take_zero, List.drop_of_length_le (by omega)]; rfl
      · rw [cutOff_lt (by omega)]
        refine src_own (n := n - j) hb hN (fun y hy => ha.2.1 y (List.mem_of_mem_drop hy)) ?_
        simp only [Nat.zero_add, drop_flatten _ _ hlen]
        rw [List.take_of_length_le]
        rw [flatten_len fun y hy => hlen y (List.mem_of_mem_drop hy), hN]
        exact Nat.le_refl _
    refine append_in (i := i) (n := i + (n - j)) un_56 sz_60 hb hsrc (by simp [hn]) (by omega) (by simp only [flatten_len hlen, hn]; omega) (by (try simp only); omega) ?_
    have hsp := splice_flatten (css := css) (ys := css.drop j) (i := i) (sz := 2) hlen fun y hy => hlen y (List.mem_of_mem_drop hy)
    simp only [hsp]
    have hal : (css.take i ++ css.drop j ++ css.drop (i + (css.drop j).length)).length = n := by simp [hn]; omega
    have hlen2 : ∀ y ∈ css.take i ++ css.drop j ++ css.drop (i + (css.drop j).length), y.length = 2 := fun y hy => by
      rcases List.mem_append.1 hy with hy | hy
      · rcases List.mem_append.1 hy with hy | hy
        · exact hlen y (List.mem_of_mem_take hy)
        · exact hlen y (List.mem_of_mem_drop hy)
      · exact hlen y (List.mem_of_mem_drop hy)
    have htk : (css.take i ++ css.drop j ++ css.drop (i + (css.drop j).length)).take (i + (n - j)) = css.take i ++ css.drop j := by
      rw [List.take_append_of_le_length (by simp [hn]; omega), List.take_of_length_le (by simp [hn]; omega)]
    generalize css.take i ++ css.drop j ++ css.drop (i + (css.drop j).length) = L at *
    repeat' (first
    | refine awp_seq_k fun K hK => ?_
    | (refine awp_region_vcl ?_; simp (disch := omega) only [go_sem, wrap_in, cutOff_lt, Hp.put_ne, Int.reduceToNat, Nat.reduceMul, Nat.reduceAdd, Nat.reduceLeDiff, Nat.reduceSub, Nat.reduceEqDiff])
    | (refine awp_region_eff (id := 5) [0, 1, 2, 3, 4, 5, 6, 7] mixed (by decide +kernel) ?_; simp only [List.map_cons, List.map_nil, atO, List.getD_cons_zero, List.getD_cons_succ]; simp (disch := omega) only [go_sem, wrap_in, cutOff_lt, Hp.put_ne, Int.reduceToNat, Nat.reduceMul, Nat.reduceAdd, Nat.reduceLeDiff, Nat.reduceSub, Nat.reduceEqDiff])
    | (refine hK _ _ ?_; clear hK K)
    | refine awp_block ?_
    | (refine awp_cond rfl (fun hc => ?_) (fun hc => ?_) <;> (try contradiction) <;> (try simp only [Bool.and_eq_true, Bool.or_eq_true, Bool.and_eq_false_iff, Bool.or_eq_false_iff, decide_eq_true_eq, decide_eq_false_iff_not, Bool.not_eq_true', Bool.not_eq_false', Int.not_lt, Int.not_le] at hc))
    | (refine awp_skip ?_; try simp only [go_sem])
    | (refine awp_exit ?_; try simp only [go_sem, Int.reduceToNat, Nat.reduceMul, Nat.reduceAdd, Nat.reduceLeDiff, Nat.reduceSub, Nat.reduceEqDiff])
    | (refine awp_ret ?_; try simp only [go_sem, Int.reduceToNat, Nat.reduceMul, Nat.reduceAdd, Nat.reduceLeDiff, Nat.reduceSub, Nat.reduceEqDiff])
    | (refine vAlloc_intro (by simp only [go_sem]) fun b hb => ?_; (try simp only [Hp.put_none] at hb); simp (disch := omega) only [go_sem, wrap_in, cutOff_lt, Hp.put_ne, Int.reduceToNat, Nat.reduceMul, Nat.reduceAdd, Nat.reduceLeDiff, Nat.reduceSub, Nat.reduceEqDiff])
    | (refine vBox_intro (by simp only [go_sem]) fun b hb => ?_; (try simp only [Hp.put_none] at hb); simp (disch := omega) only [go_sem, wrap_in, cutOff_lt, Hp.put_ne, Int.reduceToNat, Nat.reduceMul, Nat.reduceAdd, Nat.reduceLeDiff, Nat.reduceSub, Nat.reduceEqDiff])
    | (refine ap_intro ?_; simp (disch := omega) only [go_sem, wrap_in, cutOff_lt, Hp.put_ne, Int.reduceToNat, Nat.reduceMul, Nat.reduceAdd, Nat.reduceLeDiff, Nat.reduceSub, Nat.reduceEqDiff])
    | (refine And.intro (by first | omega | (simp +contextual; done) | (simp +contextual; intros; omega)) ?_)
    | (clear hK K))
    refine clear_own (e := 60) (sz := 2) un_56 ze_60 rfl rfl (Hp.put_same _ _ _) (by omega) (by (try simp only); rw [flatten_len hlen2]; omega) (by (try simp only); omega) ?_
    repeat' (first
    | refine awp_seq_k fun K hK => ?_
    | (refine awp_region_vcl ?_; simp (disch := omega) only [go_sem, wrap_in, cutOff_lt, Hp.put_ne, Int.reduceToNat, Nat.reduceMul, Nat.reduceAdd, Nat.reduceLeDiff, Nat.reduceSub, Nat.reduceEqDiff])
    | (refine awp_region_eff (id := 5) [0, 1, 2, 3, 4, 5, 6, 7] mixed (by decide +kernel) ?_; simp only [List.map_cons, List.map_nil, atO, List.getD_cons_zero, List.getD_cons_succ]; simp (disch := omega) only [go_sem, wrap_in, cutOff_lt, Hp.put_ne, Int.reduceToNat, Nat.reduceMul, Nat.reduceAdd, Nat.reduceLeDiff, Nat.reduceSub, Nat.reduceEqDiff])
    | (refine hK _ _ ?_; clear hK K)
    | refine awp_block ?_
    | (refine awp_cond rfl (fun hc => ?_) (fun hc => ?_) <;> (try contradiction) <;> (try simp only [Bool.and_eq_true, Bool.or_eq_true, Bool.and_eq_false_iff, Bool.or_eq_false_iff, decide_eq_true_eq, decide_eq_false_iff_not, Bool.not_eq_true', Bool.not_eq_false', Int.not_lt, Int.not_le] at hc))
    | (refine awp_skip ?_; try simp only [go_sem])
    | (refine awp_exit ?_; try simp only [go_sem, Int.reduceToNat, Nat.reduceMul, Nat.reduceAdd, Nat.reduceLeDiff, Nat.reduceSub, Nat.reduceEqDiff])
    | (refine awp_ret ?_; try simp only [go_sem, Int.reduceToNat, Nat.reduceMul, Nat.reduceAdd, Nat.reduceLeDiff, Nat.reduceSub, Nat.reduceEqDiff])
    | (refine vAlloc_intro (by simp only [go_sem]) fun b hb => ?_; (try simp only [Hp.put_none] at hb); simp (disch := omega) only [go_sem, wrap_in, cutOff_lt, Hp.put_ne, Int.reduceToNat, Nat.reduceMul, Nat.reduceAdd, Nat.reduceLeDiff, Nat.reduceSub, Nat.reduceEqDiff])
    | (refine vBox_intro (by simp only [go_sem]) fun b hb => ?_; (try simp only [Hp.put_none] at hb); simp (disch := omega) only [go_sem, wrap_in, cutOff_lt, Hp.put_ne, Int.reduceToNat, Nat.reduceMul, Nat.reduceAdd, Nat.reduceLeDiff, Nat.reduceSub, Nat.reduceEqDiff])
    | (refine ap_intro ?_; simp (disch := omega) only [go_sem, wrap_in, cutOff_lt, Hp.put_ne, Int.reduceToNat, Nat.reduceMul, Nat.reduceAdd, Nat.reduceLeDiff, Nat.reduceSub, Nat.reduceEqDiff])
    | (refine And.intro (by first | omega | (simp +contextual; done) | (simp +contextual; intros; omega)) ?_)
    | (clear hK K))
    refine ret_mk (.inr rfl) rfl _ _ (rle_cut (n := (i + (n - j)) * 2) _) ?_
    refine ⟨⟨_, rfl⟩, ⟨put_own ha.1 hB _, fun y hy => ?_, .inr ⟨b, c, ?_, ?_, hB, ?_⟩⟩, fun c' r h1 h2 => by rw [Hp.put_ne _ _ h2]; exact h1⟩
    · rcases List.mem_append.1 hy with hy | hy
      · exact ha.2.1 y (List.mem_of_mem_take hy)
      · exact ha.2.1 y (List.mem_of_mem_drop hy)
    · have e : (css.take i ++ css.drop j).length = i + (n - j) := by simp [hn]; omega
      simp only [go_sem, e]
    · simp [hn]; omega
    · rw [Hp.put_same]
      refine congrArg (fun z => some (Row.mk 60 z (c * 2))) ?_
      rw [List.append_assoc, List.take_append_of_le_length (by rw [List.length_take, flatten_len hlen2]; omega), List.take_take, Nat.min_self, take_flatten _ _ hlen2, htk]
theorem deleteS_c {B H : Hp} {v : Value} {i j : Nat} {css : List (List AV)} (ha : Own B H 60 2 (.raw v) css) (hij : i ≤ j) (hj : j ≤ css.length) (hl : css.length ≤ 1000) :
    ACalls Try.prog 26 [.raw v, .raw (.int .i64 i), .raw (.int .i64 j)] H (fun r H' => (∃ v, r = .raw v) ∧ Own B H' 60 2 r (css.take i ++ css.drop j) ∧ ∀ c r, H c = some r → ¬ ownsB (.raw v) c → H' c = some r) := by
  rcases ha.2.2 with ⟨h0, hform⟩ | ⟨b, c, e, hc, hB, hb⟩
  · subst h0
    have hv : v = .slice none 0 0 := by
      rcases hform with h | ⟨f, h⟩
      · injection h
      · cases h
    subst hv
    obtain rfl : j = 0 := by simpa using hj
    obtain rfl : i = 0 := by omega
    refine acalls_enter Try.func26 rfl (by simp only [Try.ntmps26, List.length_cons, List.length_nil, Nat.reduceAdd, Nat.reduceSub, List.replicate, List.cons_append, List.nil_append]; rfl) ?_
    repeat' (first
    | refine awp_seq_k fun K hK => ?_
    | (refine awp_region_vcl ?_; simp (disch := omega) only [go_sem, wrap_in, cutOff_lt, Hp.put_ne, Int.reduceToNat, Nat.reduceMul, Nat.reduceAdd, Nat.reduceLeDiff, Nat.reduceSub, Nat.reduceEqDiff])
    | (refine awp_region_eff (id := 5) [0, 1, 2, 3, 4, 5, 6, 7] mixed (by decide +kernel) ?_; simp only [List.map_cons, List.map_nil, atO, List.getD_cons_zero, List.getD_cons_succ]; simp (disch := omega) only [go_sem, wrap_in, cutOff_lt, Hp.put_ne, Int.reduceToNat, Nat.reduceMul, Nat.reduceAdd, Nat.reduceLeDiff, Nat.reduceSub, Nat.reduceEqDiff])
    | (refine hK _ _ ?_; clear hK K)
    | refine awp_block ?_
    | (refine awp_cond rfl (fun hc => ?_) (fun hc => ?_) <;> (try contradiction) <;> (try simp only [Bool.and_eq_true, Bool.or_eq_true, Bool.and_eq_false_iff, Bool.or_eq_false_iff, decide_eq_true_eq, decide_eq_false_iff_not, Bool.not_eq_true', Bool.not_eq_false', Int.not_lt, Int.not_le] at hc))
    | (refine awp_skip ?_; try simp only [go_sem])
    | (refine awp_exit ?_; try simp only [go_sem, Int.reduceToNat, Nat.reduceMul, Nat.reduceAdd, Nat.reduceLeDiff, Nat.reduceSub, Nat.reduceEqDiff])
    | (refine awp_ret ?_; try simp only [go_sem, Int.reduceToNat, Nat.reduceMul, Nat.reduceAdd, Nat.reduceLeDiff, Nat.reduceSub, Nat.reduceEqDiff])
    | (refine vAlloc_intro (by simp only [go_sem]) fun b hb => ?_; (try simp only [Hp.put_none] at hb); simp (disch := omega) only [go_sem, wrap_in, cutOff_lt, Hp.put_ne, Int.reduceToNat, Nat.reduceMul, Nat.reduceAdd, Nat.reduceLeDiff, Nat.reduceSub, Nat.reduceEqDiff])
    | (refine vBox_intro (by simp only [go_sem]) fun b hb => ?_; (try simp only [Hp.put_none] at hb); simp (disch := omega) only [go_sem, wrap_in, cutOff_lt, Hp.put_ne, Int.reduceToNat, Nat.reduceMul, Nat.reduceAdd, Nat.reduceLeDiff, Nat.reduceSub, Nat.reduceEqDiff])
    | (refine ap_intro ?_; simp (disch := omega) only [go_sem, wrap_in, cutOff_lt, Hp.put_ne, Int.reduceToNat, Nat.reduceMul, Nat.reduceAdd, Nat.reduceLeDiff, Nat.reduceSub, Nat.reduceEqDiff])
    | (refine And.intro (by first | omega | (simp +contextual; done) | (simp +contextual; intros; omega)) ?_)
    | (clear hK K))
    refine ret_mk (.inr rfl) rfl _ _ (RLe.refl _ _) ?_; simp only [go_sem]
    exact ⟨⟨_, rfl⟩, ha, fun c r h _ => h⟩
  · injection e with e
    subst e
    refine (deleteS_raw rfl ha hc hB hb hij hj hl).mono ?_
    rintro r H' ⟨h1, h2, h3⟩
    refine ⟨h1, h2, fun c' r' h4 h5 => h3 c' r' h4 ?_⟩
    rintro rfl
    exact h5 ⟨_, _, rfl⟩
end Go.Proofs.Ytemapkbfpkdddaa

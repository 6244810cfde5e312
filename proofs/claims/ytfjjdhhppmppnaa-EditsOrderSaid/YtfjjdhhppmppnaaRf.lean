/- The document's Insert, Merge, and Upto of edits. No conditions. -/
import Derived.Test.YtfjjdhhppmppnaaEdM
import Derived.Test.YtfjjdhhppmppnaaFcT
set_option linter.all false
namespace Go.Proofs.Ytfjjdhhppmppnaa
open Go Go.Fc
set_option maxHeartbeats 800000 in
set_option maxRecDepth 10000 in
theorem rupto_c (l : List GEdit) (t : Int) (H : Hp) (hl : l.length ≤ 1000) : PCall Try.prog 21 [slOf eGEdit 5 l, .raw (.int .i64 t)] H (slOf eGEdit 5 (uptoE l t)) := by
  refine pcall_enter Try.func21 rfl (by simp only [Try.ntmps21, List.length_cons, List.length_nil, Nat.reduceAdd, Nat.reduceSub, List.replicate, List.cons_append, List.nil_append]; rfl) ?_
  repeat' (first
    | refine awp_seq_k fun K hK => ?_
    | (refine awp_region_vcl ?_; simp (disch := omega) only [go_sem, wrap_in, cutOff_lt, Hp.put_ne, Int.reduceToNat, Nat.reduceMul, Nat.reduceAdd, Nat.reduceLeDiff, Nat.reduceSub, Nat.reduceEqDiff])
    | (refine hK _ _ ?_; clear hK K)
    | refine awp_block ?_
    | (refine awp_cond rfl (fun hc => ?_) (fun hc => ?_) <;> (try contradiction) <;> (try simp only [Bool.and_eq_true, Bool.or_eq_true, Bool.and_eq_false_iff, Bool.or_eq_false_iff, decide_eq_true_eq, decide_eq_false_iff_not, Bool.not_eq_true', Bool.not_eq_false', Int.not_lt, Int.not_le] at hc))
    | (refine awp_skip ?_; try simp only [go_sem])
    | (refine awp_exit ?_; try simp only [go_sem, Int.reduceToNat, Nat.reduceMul, Nat.reduceAdd, Nat.reduceLeDiff, Nat.reduceSub, Nat.reduceEqDiff])
    | (refine awp_ret ?_; try simp only [go_sem, Int.reduceToNat, Nat.reduceMul, Nat.reduceAdd, Nat.reduceLeDiff, Nat.reduceSub, Nat.reduceEqDiff])
    | (refine vAlloc_intro (by simp only [go_sem]) fun b hb => ?_; (try simp only [Hp.put_none] at hb); simp (disch := omega) only [go_sem, wrap_in, cutOff_lt, Hp.put_ne, Int.reduceToNat, Nat.reduceMul, Nat.reduceAdd, Nat.reduceLeDiff, Nat.reduceSub, Nat.reduceEqDiff])
    | (refine vBox_intro (by simp only [go_sem]) fun b hb => ?_; (try simp only [Hp.put_none] at hb); simp (disch := omega) only [go_sem, wrap_in, cutOff_lt, Hp.put_ne, Int.reduceToNat, Nat.reduceMul, Nat.reduceAdd, Nat.reduceLeDiff, Nat.reduceSub, Nat.reduceEqDiff])
    | (refine ap_intro ?_; simp (disch := omega) only [go_sem, wrap_in, cutOff_lt, Hp.put_ne, Int.reduceToNat, Nat.reduceMul, Nat.reduceAdd, Nat.reduceLeDiff, Nat.reduceSub, Nat.reduceEqDiff])
    | (refine And.intro (by first | omega | (simp +contextual; done) | (simp +contextual; intros; omega)) ?_)
    | (clear hK K))
  have hKo := hK; clear hK
  refine awp_loop_inv (S := Nat × AV) [(5, 2), (8, 20)] (fun s H' => s.1 ≤ l.length ∧ Own H H' 33 5 s.2 ((uptoE (l.take s.1) t).map eGEdit)) (fun s => [(5, s.2), (6, .raw (.int .i64 s.1))]) (fun s => l.length - s.1) (0, .sl true 5 0 fun _ => []) ⟨by omega, Own.lit (Hp.Sub.refl H) _ _ _⟩ (by (simp only [go_sem, LLe, Nat.reduceAdd, AV.raw.injEq, Value.int.injEq, Value.slice.injEq, Value.pointer.injEq]; try omega)) ?_
  rintro ⟨k, a⟩ H' ⟨h1, hown⟩ Kr hKr
  simp only at h1 hown
  have hlen := uptoE_len (l.take k) t
  rw [List.length_take] at hlen
  simp (disch := omega) only [go_sem, wrap_in, cutOff_lt, Hp.put_ne, Int.reduceToNat, Nat.reduceMul, Nat.reduceAdd, Nat.reduceLeDiff, Nat.reduceSub, Nat.reduceEqDiff]
  repeat' (first
    | refine awp_seq_k fun K hK => ?_
    | (refine awp_region_vcl ?_; simp (disch := omega) only [go_sem, wrap_in, cutOff_lt, Hp.put_ne, Int.reduceToNat, Nat.reduceMul, Nat.reduceAdd, Nat.reduceLeDiff, Nat.reduceSub, Nat.reduceEqDiff])
    | (refine hK _ _ ?_; clear hK K)
    | refine awp_block ?_
    | (refine awp_cond rfl (fun hc => ?_) (fun hc => ?_) <;> (try contradiction) <;> (try simp only [Bool.and_eq_true, Bool.or_eq_true, Bool.and_eq_false_iff, Bool.or_eq_false_iff, decide_eq_true_eq, decide_eq_false_iff_not, Bool.not_eq_true', Bool.not_eq_false', Int.not_lt, Int.not_le] at hc))
    | (refine awp_skip ?_; try simp only [go_sem])
    | (refine awp_exit ?_; try simp only [go_sem, Int.reduceToNat, Nat.reduceMul, Nat.reduceAdd, Nat.reduceLeDiff, Nat.reduceSub, Nat.reduceEqDiff])
    | (refine awp_ret ?_; try simp only [go_sem, Int.reduceToNat, Nat.reduceMul, Nat.reduceAdd, Nat.reduceLeDiff, Nat.reduceSub, Nat.reduceEqDiff])
    | (refine vAlloc_intro (by simp only [go_sem]) fun b hb => ?_; (try simp only [Hp.put_none] at hb); simp (disch := omega) only [go_sem, wrap_in, cutOff_lt, Hp.put_ne, Int.reduceToNat, Nat.reduceMul, Nat.reduceAdd, Nat.reduceLeDiff, Nat.reduceSub, Nat.reduceEqDiff])
    | (refine vBox_intro (by simp only [go_sem]) fun b hb => ?_; (try simp only [Hp.put_none] at hb); simp (disch := omega) only [go_sem, wrap_in, cutOff_lt, Hp.put_ne, Int.reduceToNat, Nat.reduceMul, Nat.reduceAdd, Nat.reduceLeDiff, Nat.reduceSub, Nat.reduceEqDiff])
    | (refine ap_intro ?_; simp (disch := omega) only [go_sem, wrap_in, cutOff_lt, Hp.put_ne, Int.reduceToNat, Nat.reduceMul, Nat.reduceAdd, Nat.reduceLeDiff, Nat.reduceSub, Nat.reduceEqDiff])
    | (refine And.intro (by first | omega | (simp +contextual; done) | (simp +contextual; intros; omega)) ?_)
    | (refine append_one Try.underlying22 sz_33 (by simp only [go_sem]) by_33 hown rfl rfl (by simp; omega) (by simp; omega) ?_; intro a' H'' hown' _)
    | (refine hKo _ _ ?_)
    | (clear hK K))
  · refine hKr _ _ (next_mk (k + 1, a') ⟨by (try simp only); omega, ?_⟩ (by (try simp only); omega) (by (simp only [go_sem, LLe, Nat.reduceAdd, AV.raw.injEq, Value.int.injEq, Value.slice.injEq, Value.pointer.injEq]; try omega)))
    simp only
    rw [uptoE_succ l t (by omega), if_pos hc, List.map_append]
    exact hown'
  · refine hKr _ _ (next_mk (k + 1, a) ⟨by (try simp only); omega, ?_⟩ (by (try simp only); omega) (by (simp only [go_sem, LLe, Nat.reduceAdd, AV.raw.injEq, Value.int.injEq, Value.slice.injEq, Value.pointer.injEq]; try omega)))
    simp only
    rw [uptoE_succ l t (by omega), if_neg (by omega), List.append_nil]
    exact hown
  · refine pretw (.inr rfl) rfl ?_; simp only [go_sem]
    rw [List.take_of_length_le (by omega)] at hown
    exact hown.freeze_list
set_option maxHeartbeats 800000 in
set_option maxRecDepth 10000 in
theorem rinsert_c (l : List GEdit) (x : GEdit) (H : Hp) (hl : l.length ≤ 1000) : PCall Try.prog 42 [slOf eGEdit 5 l, .agg (eGEdit x)] H (slOf eGEdit 5 (insOne l x)) := by
  refine pcall_enter Try.func42 rfl (by simp only [Try.ntmps42, List.length_cons, List.length_nil, Nat.reduceAdd, Nat.reduceSub, List.replicate, List.cons_append, List.nil_append]; rfl) ?_
  repeat' (first
    | refine awp_seq_k fun K hK => ?_
    | (refine awp_region_vcl ?_; simp (disch := omega) only [go_sem, wrap_in, cutOff_lt, Hp.put_ne, Int.reduceToNat, Nat.reduceMul, Nat.reduceAdd, Nat.reduceLeDiff, Nat.reduceSub, Nat.reduceEqDiff])
    | (refine awp_region_eff (id := 6) [0, 1, 2, 3, 4, 5, 6, 7, 8, 9, 10, 11] mixed (by decide +kernel) ?_; simp only [List.map_cons, List.map_nil, atO, List.getD_cons_zero, List.getD_cons_succ]; simp (disch := omega) only [go_sem, wrap_in, cutOff_lt, Hp.put_ne, Int.reduceToNat, Nat.reduceMul, Nat.reduceAdd, Nat.reduceLeDiff, Nat.reduceSub, Nat.reduceEqDiff])
    | (refine hK _ _ ?_; clear hK K)
    | refine awp_block ?_
    | (refine awp_cond rfl (fun hc => ?_) (fun hc => ?_) <;> (try contradiction) <;> (try simp only [Bool.and_eq_true, Bool.or_eq_true, Bool.and_eq_false_iff, Bool.or_eq_false_iff, decide_eq_true_eq, decide_eq_false_iff_not, Bool.not_eq_true', Bool.not_eq_false', Int.not_lt, Int.not_le] at hc))
    | (refine awp_skip ?_; try simp only [go_sem])
    | (refine awp_exit ?_; try simp only [go_sem, Int.reduceToNat, Nat.reduceMul, Nat.reduceAdd, Nat.reduceLeDiff, Nat.reduceSub, Nat.reduceEqDiff])
    | (refine awp_ret ?_; try simp only [go_sem, Int.reduceToNat, Nat.reduceMul, Nat.reduceAdd, Nat.reduceLeDiff, Nat.reduceSub, Nat.reduceEqDiff])
    | (refine vAlloc_intro (by simp only [go_sem]) fun b hb => ?_; (try simp only [Hp.put_none] at hb); simp (disch := omega) only [go_sem, wrap_in, cutOff_lt, Hp.put_ne, Int.reduceToNat, Nat.reduceMul, Nat.reduceAdd, Nat.reduceLeDiff, Nat.reduceSub, Nat.reduceEqDiff])
    | (refine vBox_intro (by simp only [go_sem]) fun b hb => ?_; (try simp only [Hp.put_none] at hb); simp (disch := omega) only [go_sem, wrap_in, cutOff_lt, Hp.put_ne, Int.reduceToNat, Nat.reduceMul, Nat.reduceAdd, Nat.reduceLeDiff, Nat.reduceSub, Nat.reduceEqDiff])
    | (refine ap_intro ?_; simp (disch := omega) only [go_sem, wrap_in, cutOff_lt, Hp.put_ne, Int.reduceToNat, Nat.reduceMul, Nat.reduceAdd, Nat.reduceLeDiff, Nat.reduceSub, Nat.reduceEqDiff])
    | (refine And.intro (by first | omega | (simp +contextual; done) | (simp +contextual; intros; omega)) ?_)
    | (clear hK K))
  have hKo := hK; clear hK
  refine awp_loop_inv (S := Nat × Bool × AV) [(5, 3), (9, 29)] (fun s H' => s.1 ≤ l.length ∧ insInv l x s.1 s.2.1 ∧ Own (H.put b ⟨33, eGEdit x, 5⟩) H' 33 5 s.2.2 ((insPre l x s.1 s.2.1).map eGEdit)) (fun s => [(5, s.2.2), (6, .raw (.bool s.2.1)), (7, .raw (.int .i64 s.1))]) (fun s => l.length - s.1) (0, false, .sl true 5 0 fun _ => []) ⟨by omega, ⟨by simp, by simp⟩, Own.lit (Hp.Sub.refl _) _ _ _⟩ (by (simp only [go_sem, LLe, Nat.reduceAdd, AV.raw.injEq, Value.int.injEq, Value.slice.injEq, Value.pointer.injEq]; try omega)) ?_
  rintro ⟨k, d, a⟩ H' ⟨h1, hinv, hown⟩ Kr hKr
  simp only at h1 hinv hown
  have hlen := insPre_len l x k d
  have hx : H' b = some ⟨33, eGEdit x, 5⟩ := hown.sub _ _ (Hp.put_same _ _ _)
  cases d
  all_goals
    simp (disch := first | omega | (apply Hp.ne_of <;> assumption) | fail) only [go_sem, hx, wrap_in, cutOff_lt, Hp.put_ne, Int.reduceToNat, Nat.reduceMul, Nat.reduceAdd, Nat.reduceLeDiff, Nat.reduceSub, Nat.reduceEqDiff]
    repeat' (first
    | refine awp_seq_k fun K hK => ?_
    | (refine awp_region_vcl ?_; simp (disch := first | omega | (apply Hp.ne_of <;> assumption) | fail) only [go_sem, hx, wrap_in, cutOff_lt, Hp.put_ne, Int.reduceToNat, Nat.reduceMul, Nat.reduceAdd, Nat.reduceLeDiff, Nat.reduceSub, Nat.reduceEqDiff])
    | (refine awp_region_eff (id := 6) [0, 1, 2, 3, 4, 5, 6, 7, 8, 9, 10, 11] mixed (by decide +kernel) ?_; simp only [List.map_cons, List.map_nil, atO, List.getD_cons_zero, List.getD_cons_succ]; simp (disch := first | omega | (apply Hp.ne_of <;> assumption) | fail) only [go_sem, hx, wrap_in, cutOff_lt, Hp.put_ne, Int.reduceToNat, Nat.reduceMul, Nat.reduceAdd, Nat.reduceLeDiff, Nat.reduceSub, Nat.reduceEqDiff])
    | (refine hK _ _ ?_; clear hK K)
    | refine awp_block ?_
    | (refine awp_cond rfl (fun hc => ?_) (fun hc => ?_) <;> (try contradiction) <;> (try simp only [Bool.and_eq_true, Bool.or_eq_true, Bool.and_eq_false_iff, Bool.or_eq_false_iff, decide_eq_true_eq, decide_eq_false_iff_not, Bool.not_eq_true', Bool.not_eq_false', Int.not_lt, Int.not_le] at hc))
    | (refine awp_skip ?_; try simp only [go_sem, hx])
    | (refine awp_exit ?_; try simp only [go_sem, hx, Int.reduceToNat, Nat.reduceMul, Nat.reduceAdd, Nat.reduceLeDiff, Nat.reduceSub, Nat.reduceEqDiff])
    | (refine awp_ret ?_; try simp only [go_sem, hx, Int.reduceToNat, Nat.reduceMul, Nat.reduceAdd, Nat.reduceLeDiff, Nat.reduceSub, Nat.reduceEqDiff])
    | (refine vAlloc_intro (by simp only [go_sem, hx]) fun b hb => ?_; (try simp only [Hp.put_none] at hb); simp (disch := first | omega | (apply Hp.ne_of <;> assumption) | fail) only [go_sem, hx, wrap_in, cutOff_lt, Hp.put_ne, Int.reduceToNat, Nat.reduceMul, Nat.reduceAdd, Nat.reduceLeDiff, Nat.reduceSub, Nat.reduceEqDiff])
    | (refine vBox_intro (by simp only [go_sem, hx]) fun b hb => ?_; (try simp only [Hp.put_none] at hb); simp (disch := first | omega | (apply Hp.ne_of <;> assumption) | fail) only [go_sem, hx, wrap_in, cutOff_lt, Hp.put_ne, Int.reduceToNat, Nat.reduceMul, Nat.reduceAdd, Nat.reduceLeDiff, Nat.reduceSub, Nat.reduceEqDiff])
    | (refine ap_intro ?_; simp (disch := first | omega | (apply Hp.ne_of <;> assumption) | fail) only [go_sem, hx, wrap_in, cutOff_lt, Hp.put_ne, Int.reduceToNat, Nat.reduceMul, Nat.reduceAdd, Nat.reduceLeDiff, Nat.reduceSub, Nat.reduceEqDiff])
    | (refine And.intro (by first | omega | (simp +contextual; done) | (simp +contextual; intros; omega)) ?_)
    | (refine append_one Try.underlying22 sz_33 (by simp only [go_sem, hx]) by_33 hown rfl rfl (by simp; omega) (by simp; omega) ?_; intro a' H'' hown' hkeep)
    | (refine append_one Try.underlying22 sz_33 (by simp only [go_sem, hx]) by_33 hown' rfl rfl (by simp; omega) (by simp; omega) ?_; clear hkeep; intro a'' H''' hown'' hkeep)
    | (refine hKo _ _ ?_)
    | (clear hK K))
  · refine hKr _ _ (next_mk (k + 1, true, a'') ⟨by (try simp only); omega, ?_, ?_⟩ (by (try simp only); omega) (by (simp only [go_sem, LLe, Nat.reduceAdd, AV.raw.injEq, Value.int.injEq, Value.slice.injEq, Value.pointer.injEq]; try omega)))
    · exact ⟨fun _ => ⟨nth l k, by rw [take_nth (by omega)]; simp, hc⟩, by simp⟩
    · simp only [insPre, if_true, Bool.false_eq_true, if_false] at hown'' ⊢
      rw [take_nth (by omega), insOne_lt hc (hinv.2 rfl), List.map_append, List.map_append]
      exact hown''
  · refine hKr _ _ (next_mk (k + 1, false, a') ⟨by (try simp only); omega, ?_, ?_⟩ (by (try simp only); omega) (by (simp only [go_sem, LLe, Nat.reduceAdd, AV.raw.injEq, Value.int.injEq, Value.slice.injEq, Value.pointer.injEq]; try omega)))
    · refine ⟨by simp, fun _ z hz => ?_⟩
      rw [take_nth (by omega), List.mem_append] at hz
      rcases hz with hz | hz
      · exact hinv.2 rfl z hz
      · simp at hz; subst hz; exact hc
    · simp only [insPre, Bool.false_eq_true, if_false] at hown' ⊢
      rw [take_nth (by omega), List.map_append]
      exact hown'
  · refine pretw (.inr rfl) rfl ?_; simp only [go_sem]
    simp only [insPre, Bool.false_eq_true, if_false] at hown'
    have hle := hinv.2 rfl
    rw [List.take_of_length_le (by omega)] at hown' hle
    rw [← List.map_singleton, ← List.map_append, ← insOne_le hle] at hown'
    exact hown'.freeze_list.trans (RLe.drop _ ((Hp.Sub.refl _).put _ hb))
  · refine hKr _ _ (next_mk (k + 1, true, a') ⟨by (try simp only); omega, ?_, ?_⟩ (by (try simp only); omega) (by (simp only [go_sem, LLe, Nat.reduceAdd, AV.raw.injEq, Value.int.injEq, Value.slice.injEq, Value.pointer.injEq]; try omega)))
    · obtain ⟨z, hz, hz'⟩ := hinv.1 rfl
      exact ⟨fun _ => ⟨z, by rw [take_nth (by omega)]; simp [hz], hz'⟩, by simp⟩
    · simp only [insPre, if_true] at hown' ⊢
      rw [take_nth (by omega), insOne_snoc (hinv.1 rfl), List.map_append]
      exact hown'
  · refine pretw (.inr rfl) rfl ?_; simp only [go_sem]
    simp only [insPre, if_true] at hown
    rw [List.take_of_length_le (by omega)] at hown
    exact hown.freeze_list.trans (RLe.drop _ ((Hp.Sub.refl _).put _ hb))
set_option maxHeartbeats 800000 in
set_option maxRecDepth 10000 in
theorem rmerge_c (a b : List GEdit) (H : Hp) (h1 : a.length ≤ 500) (h2 : b.length ≤ 500) : PCall Try.prog 20 [slOf eGEdit 5 a, slOf eGEdit 5 b] H (slOf eGEdit 5 (insAll a b)) := by
  refine pcall_enter Try.func20 rfl (by simp only [Try.ntmps20, List.length_cons, List.length_nil, Nat.reduceAdd, Nat.reduceSub, List.replicate, List.cons_append, List.nil_append]; rfl) ?_
  repeat' (first
    | refine awp_seq_k fun K hK => ?_
    | (refine awp_region_vcl ?_; simp (disch := omega) only [go_sem, wrap_in, cutOff_lt, Hp.put_ne, Int.reduceToNat, Nat.reduceMul, Nat.reduceAdd, Nat.reduceLeDiff, Nat.reduceSub, Nat.reduceEqDiff])
    | (refine hK _ _ ?_; clear hK K)
    | refine awp_block ?_
    | (refine awp_cond rfl (fun hc => ?_) (fun hc => ?_) <;> (try contradiction) <;> (try simp only [Bool.and_eq_true, Bool.or_eq_true, Bool.and_eq_false_iff, Bool.or_eq_false_iff, decide_eq_true_eq, decide_eq_false_iff_not, Bool.not_eq_true', Bool.not_eq_false', Int.not_lt, Int.not_le] at hc))
    | (refine awp_skip ?_; try simp only [go_sem])
    | (refine awp_exit ?_; try simp only [go_sem, Int.reduceToNat, Nat.reduceMul, Nat.reduceAdd, Nat.reduceLeDiff, Nat.reduceSub, Nat.reduceEqDiff])
    | (refine awp_ret ?_; try simp only [go_sem, Int.reduceToNat, Nat.reduceMul, Nat.reduceAdd, Nat.reduceLeDiff, Nat.reduceSub, Nat.reduceEqDiff])
    | (refine vAlloc_intro (by simp only [go_sem]) fun b hb => ?_; (try simp only [Hp.put_none] at hb); simp (disch := omega) only [go_sem, wrap_in, cutOff_lt, Hp.put_ne, Int.reduceToNat, Nat.reduceMul, Nat.reduceAdd, Nat.reduceLeDiff, Nat.reduceSub, Nat.reduceEqDiff])
    | (refine vBox_intro (by simp only [go_sem]) fun b hb => ?_; (try simp only [Hp.put_none] at hb); simp (disch := omega) only [go_sem, wrap_in, cutOff_lt, Hp.put_ne, Int.reduceToNat, Nat.reduceMul, Nat.reduceAdd, Nat.reduceLeDiff, Nat.reduceSub, Nat.reduceEqDiff])
    | (refine ap_intro ?_; simp (disch := omega) only [go_sem, wrap_in, cutOff_lt, Hp.put_ne, Int.reduceToNat, Nat.reduceMul, Nat.reduceAdd, Nat.reduceLeDiff, Nat.reduceSub, Nat.reduceEqDiff])
    | (refine And.intro (by first | omega | (simp +contextual; done) | (simp +contextual; intros; omega)) ?_)
    | (refine append_own (e := 33) (sz := 5) (ys := a.map eGEdit) un_22 sz_33 (by rw [ze_33]; rfl) (Own.lit (Hp.Sub.refl H) _ _ _) (src_list a fun y _ => eGEdit_ok y) (by rw [by_33]; simp; omega) (by simp; omega) ?_; intro a' H'' hown hkeep; rw [List.nil_append] at hown)
    | (clear hK K))
  have hKo := hK; clear hK
  refine awp_weak (fle_freeze (i := 5) rfl hown.freeze_list) ?_
  clear hown hkeep
  simp only [List.set_cons_succ, List.set_cons_zero]
  refine awp_loop_inv (S := Nat) [(5, 2), (10, 12)] (fun k H' => H' = H ∧ k ≤ b.length) (fun k => [(5, slOf eGEdit 5 (insAll a (b.take k))), (6, .raw (.int .i64 k))]) (fun k => b.length - k) 0 ⟨rfl, by omega⟩ (by (simp only [go_sem, LLe, Nat.reduceAdd, AV.raw.injEq, Value.int.injEq, Value.slice.injEq, Value.pointer.injEq]; try omega)) ?_
  rintro k H' ⟨rfl, hk⟩ Kr hKr
  have hlen := insAll_len a (b.take k)
  rw [List.length_take] at hlen
  simp (disch := omega) only [go_sem, wrap_in, cutOff_lt, Hp.put_ne, Int.reduceToNat, Nat.reduceMul, Nat.reduceAdd, Nat.reduceLeDiff, Nat.reduceSub, Nat.reduceEqDiff]
  repeat' (first
    | refine awp_seq_k fun K hK => ?_
    | (refine awp_region_vcl ?_; simp (disch := omega) only [go_sem, wrap_in, cutOff_lt, Hp.put_ne, Int.reduceToNat, Nat.reduceMul, Nat.reduceAdd, Nat.reduceLeDiff, Nat.reduceSub, Nat.reduceEqDiff])
    | (refine hK _ _ ?_; clear hK K)
    | refine awp_block ?_
    | (refine awp_cond rfl (fun hc => ?_) (fun hc => ?_) <;> (try contradiction) <;> (try simp only [Bool.and_eq_true, Bool.or_eq_true, Bool.and_eq_false_iff, Bool.or_eq_false_iff, decide_eq_true_eq, decide_eq_false_iff_not, Bool.not_eq_true', Bool.not_eq_false', Int.not_lt, Int.not_le] at hc))
    | (refine awp_skip ?_; try simp only [go_sem])
    | (refine awp_exit ?_; try simp only [go_sem, Int.reduceToNat, Nat.reduceMul, Nat.reduceAdd, Nat.reduceLeDiff, Nat.reduceSub, Nat.reduceEqDiff])
    | (refine awp_ret ?_; try simp only [go_sem, Int.reduceToNat, Nat.reduceMul, Nat.reduceAdd, Nat.reduceLeDiff, Nat.reduceSub, Nat.reduceEqDiff])
    | (refine vAlloc_intro (by simp only [go_sem]) fun b hb => ?_; (try simp only [Hp.put_none] at hb); simp (disch := omega) only [go_sem, wrap_in, cutOff_lt, Hp.put_ne, Int.reduceToNat, Nat.reduceMul, Nat.reduceAdd, Nat.reduceLeDiff, Nat.reduceSub, Nat.reduceEqDiff])
    | (refine vBox_intro (by simp only [go_sem]) fun b hb => ?_; (try simp only [Hp.put_none] at hb); simp (disch := omega) only [go_sem, wrap_in, cutOff_lt, Hp.put_ne, Int.reduceToNat, Nat.reduceMul, Nat.reduceAdd, Nat.reduceLeDiff, Nat.reduceSub, Nat.reduceEqDiff])
    | (refine ap_intro ?_; simp (disch := omega) only [go_sem, wrap_in, cutOff_lt, Hp.put_ne, Int.reduceToNat, Nat.reduceMul, Nat.reduceAdd, Nat.reduceLeDiff, Nat.reduceSub, Nat.reduceEqDiff])
    | (refine And.intro (by first | omega | (simp +contextual; done) | (simp +contextual; intros; omega)) ?_)
    | (refine vcall_raw cb_42 (pcall_of (rinsert_c (insAll a (b.take k)) (nth b k) _ (by omega)) ?_))
    | (refine hKo _ _ ?_)
    | (clear hK K))
  · refine hKr _ _ (next_mk (k + 1) ⟨rfl, by omega⟩ (by (try simp only); omega) (by rw [insAll_succ a b (by omega)]; (simp only [go_sem, LLe, Nat.reduceAdd, AV.raw.injEq, Value.int.injEq, Value.slice.injEq, Value.pointer.injEq]; try omega)))
  · refine pret (.inr rfl) rfl ?_; simp only [go_sem]
    rw [List.take_of_length_le (by omega)]
end Go.Proofs.Ytfjjdhhppmppnaa

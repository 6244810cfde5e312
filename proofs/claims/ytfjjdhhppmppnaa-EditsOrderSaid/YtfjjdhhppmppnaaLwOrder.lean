/- EditsOrder tells the truth. No conditions. -/
import Derived.Test.YtfjjdhhppmppnaaLwAll
import Derived.Test.YtfjjdhhppmppnaaEdO
set_option linter.all false
namespace Go.Proofs.Ytfjjdhhppmppnaa
open Go Go.Fc
theorem insert_nil (l : List GEdit) (H : Hp) (h : l.length ≤ 1000) : PCall Try.prog 12 [.raw (.slice none 0 0), slOf eGEdit 5 l] H (slOf eGEdit 5 (insAll [] l)) :=
  acalls_weak (args' := [slOf eGEdit 5 [], slOf eGEdit 5 l]) ⟨VLe.nil, VLe.refl _ _, trivial⟩ (insert_c [] l H (by simp) h)
theorem merge_nil (l : List GEdit) (H : Hp) (h : l.length ≤ 1000) : PCall Try.prog 14 [slOf eGEdit 5 l, .raw (.slice none 0 0)] H (slOf eGEdit 5 l) :=
  acalls_weak (args' := [slOf eGEdit 5 l, slOf eGEdit 5 []]) ⟨VLe.refl _ _, VLe.nil, trivial⟩ (merge_c l [] H h (by simp))
theorem sorted_is {l : List GEdit} (h : SortE l) (H : Hp) (hl : l.length ≤ 1000000) : PCall Try.prog 15 [slOf eGEdit 5 l] H (.raw (.bool true)) := sort_E h ▸ sorted_c l H hl
theorem same_eqs {a b : List GEdit} (e : a = b) (H : Hp) (h : a.length ≤ 1000000) : PCall Try.prog 17 [slOf eGEdit 5 a, slOf eGEdit 5 b] H (.raw (.bool true)) := e ▸ same_is a H h
set_option maxHeartbeats 1600000 in
set_option maxRecDepth 10000 in
theorem lawOrder_c (a0 b0 : List GEdit) (x : GThird) (H : Hp) : PCall Try.prog 3 [slOf eGEdit 5 a0, slOf eGEdit 5 b0, .agg (eGThird x)] H (.raw (.bool true)) := by
  have la := fewE_len a0
  have lb := fewE_len b0
  have lc := fewE_len x.l
  have la' := insAll_len [] (fewE a0)
  have lb' := insAll_len [] (fewE b0)
  have lc' := insAll_len [] (fewE x.l)
  have lm := insAll_len (insAll [] (fewE a0)) (insAll [] (fewE b0))
  simp only [List.length_nil] at la' lb' lc'
  refine pcall_enter Try.func3 rfl (by simp only [Try.ntmps3, List.length_cons, List.length_nil, Nat.reduceAdd, Nat.reduceSub, List.replicate, List.cons_append, List.nil_append]; rfl) ?_
  repeat' (first
    | refine awp_seq_k fun K hK => ?_
    | (refine awp_region_vcl ?_; simp (disch := omega) only [go_sem, wrap_in, cutOff_lt, Hp.put_ne, Int.reduceToNat, Nat.reduceMul, Nat.reduceAdd, Nat.reduceLeDiff, Nat.reduceSub, Nat.reduceEqDiff])
    | (refine awp_region_eff (id := 13) [0, 1, 2, 3, 4, 5, 6, 7, 8, 9, 10, 11, 12, 13, 14, 15, 16, 17, 18, 19, 20, 21, 22] mixed (by decide +kernel) ?_; simp only [List.map_cons, List.map_nil, atO, List.getD_cons_zero, List.getD_cons_succ]; simp (disch := omega) only [go_sem, wrap_in, cutOff_lt, Hp.put_ne, Int.reduceToNat, Nat.reduceMul, Nat.reduceAdd, Nat.reduceLeDiff, Nat.reduceSub, Nat.reduceEqDiff])
    | (refine awp_region_eff (id := 14) [0, 1, 2, 3, 4, 5, 6, 7, 8] mixed (by decide +kernel) ?_; simp only [List.map_cons, List.map_nil, atO, List.getD_cons_zero, List.getD_cons_succ]; simp (disch := omega) only [go_sem, wrap_in, cutOff_lt, Hp.put_ne, Int.reduceToNat, Nat.reduceMul, Nat.reduceAdd, Nat.reduceLeDiff, Nat.reduceSub, Nat.reduceEqDiff])
    | (refine awp_region_eff (id := 17) [0, 1, 2, 3, 4, 5, 6, 7, 8, 9, 10, 11, 12, 13, 14] mixed (by decide +kernel) ?_; simp only [List.map_cons, List.map_nil, atO, List.getD_cons_zero, List.getD_cons_succ]; simp (disch := omega) only [go_sem, wrap_in, cutOff_lt, Hp.put_ne, Int.reduceToNat, Nat.reduceMul, Nat.reduceAdd, Nat.reduceLeDiff, Nat.reduceSub, Nat.reduceEqDiff])
    | (refine awp_region_draw (id := 22) mixed (by decide +kernel) ?_; simp (disch := omega) only [go_sem, wrap_in, cutOff_lt, Hp.put_ne, Int.reduceToNat, Nat.reduceMul, Nat.reduceAdd, Nat.reduceLeDiff, Nat.reduceSub, Nat.reduceEqDiff])
    | (refine hK _ _ ?_; clear hK K)
    | refine awp_block ?_
    | (refine awp_cond rfl (fun hc => ?_) (fun hc => ?_) <;> (try contradiction) <;> (try simp only [Bool.and_eq_true, Bool.or_eq_true, Bool.and_eq_false_iff, Bool.or_eq_false_iff, decide_eq_true_eq, decide_eq_false_iff_not, Bool.not_eq_true', Bool.not_eq_false', Int.not_lt, Int.not_le] at hc))
    | (refine awp_skip ?_; try simp only [go_sem])
    | (refine awp_exit ?_; try simp only [go_sem, Int.reduceToNat, Nat.reduceMul, Nat.reduceAdd, Nat.reduceLeDiff, Nat.reduceSub, Nat.reduceEqDiff])
    | (refine awp_ret ?_; try simp only [go_sem, Int.reduceToNat, Nat.reduceMul, Nat.reduceAdd, Nat.reduceLeDiff, Nat.reduceSub, Nat.reduceEqDiff])
    | (refine vAlloc_intro (by simp only [go_sem]) fun b hb => ?_; (try simp only [Hp.put_none] at hb); simp (disch := omega) only [go_sem, wrap_in, cutOff_lt, Hp.put_ne, Int.reduceToNat, Nat.reduceMul, Nat.reduceAdd, Nat.reduceLeDiff, Nat.reduceSub, Nat.reduceEqDiff])
    | (refine vBox_intro (by simp only [go_sem]) fun b hb => ?_; (try simp only [Hp.put_none] at hb); simp (disch := omega) only [go_sem, wrap_in, cutOff_lt, Hp.put_ne, Int.reduceToNat, Nat.reduceMul, Nat.reduceAdd, Nat.reduceLeDiff, Nat.reduceSub, Nat.reduceEqDiff])
    | (refine ap_intro ?_; simp (disch := omega) only [go_sem, wrap_in, cutOff_lt, Hp.put_ne, Int.reduceToNat, Nat.reduceMul, Nat.reduceAdd, Nat.reduceLeDiff, Nat.reduceSub, Nat.reduceEqDiff])
    | (refine And.intro (by first | omega | (simp +contextual; done) | (simp +contextual; intros; omega)) ?_)
    | (refine vcall_raw cb_11 (pcall_of (shown_c _) ?_))
    | (refine vcall_raw cb_13 (pcall_of (few_c _ _) ?_))
    | (refine vcall_raw cb_12 (pcall_of (insert_nil _ _ (by omega)) ?_))
    | (refine vcall_raw cb_14 (pcall_of (merge_c _ _ _ (by omega) (by omega)) ?_))
    | (refine vcall_raw cb_15 (pcall_of (sorted_is (sort_srt _) _ (by omega)) ?_))
    | (refine ⟨_, vcall_raw cb_15 (sorted_is (sort_insAll _ (sort_srt _)) _ (by omega)), ?_⟩; try (simp (disch := omega) only [go_sem, wrap_in, cutOff_lt, Hp.put_ne, Int.reduceToNat, Nat.reduceMul, Nat.reduceAdd, Nat.reduceLeDiff, Nat.reduceSub, Nat.reduceEqDiff]))
    | (clear hK K))
  · omega
  · have sa := sort_srt (fewE a0)
    have sb := sort_srt (fewE b0)
    have sc := sort_srt (fewE x.l)
    generalize insAll [] (fewE a0) = a at *
    generalize insAll [] (fewE b0) = bb at *
    generalize insAll [] (fewE x.l) = c at *
    have em := insAll_mg bb sb a
    have ec : insAll (insAll a bb) c = insAll a (insAll bb c) := by
      rw [insAll_mg c sc, em, insAll_mg (insAll bb c) (sort_insAll _ sb), insAll_mg c sc, mg_assoc _ _ _ _ (Nat.le_refl _)]
    have eu := upto_insAll (t := x.t) bb sa
    generalize insAll a bb = m at *
    have EM := RowKit.Hid.out (p := m = mg a bb) em
    have hKo := hK; clear hK em
    generalize hB : (Hp.put _ b _ : Hp) = B
    have hx0 : B b = some ⟨24, eGThird x, 2⟩ := by rw [← hB, Hp.put_same]
    refine awp_loop_inv (S := Nat × Nat) [(10, 3), (50, 57)] (fun s H' => H' = B ∧ s.1 ≤ a.length ∧ s.2 ≤ bb.length ∧ RowKit.Hid (m.drop (s.1 + s.2) = mg (a.drop s.1) (bb.drop s.2))) (fun s => [(10, .raw (.int .i64 s.1)), (11, .raw (.int .i64 s.2)), (12, .raw (.int .i64 ((s.1 + s.2 : Nat) : Int)))]) (fun s => a.length + bb.length - (s.1 + s.2)) (0, 0) ⟨rfl, by (try simp only); omega, by (try simp only); omega, by simp only [List.drop_zero]; exact EM⟩ (by (simp only [go_sem, LLe, Nat.reduceAdd, AV.raw.injEq, Value.int.injEq, Value.slice.injEq, Value.pointer.injEq]; try omega)) ?_
    rintro ⟨i, k⟩ H' ⟨rfl, hi, hk, hd⟩ Kr hKr
    simp only at hi hk hd
    have l1 := insAll_len m c
    have l2 := insAll_len bb c
    have l3 := uptoE_len a x.t
    have l4 := uptoE_len bb x.t
    have l5 := uptoE_len m x.t
    simp (disch := first | omega | (apply Hp.ne_of <;> assumption) | fail) only [go_sem, hx0, wrap_in, cutOff_lt, Hp.put_ne, Int.reduceToNat, Nat.reduceMul, Nat.reduceAdd, Nat.reduceLeDiff, Nat.reduceSub, Nat.reduceEqDiff]
    repeat' (first
    | refine awp_seq_k fun K hK => ?_
    | (refine awp_region_vcl ?_; simp (disch := first | omega | (apply Hp.ne_of <;> assumption) | fail) only [go_sem, hx0, wrap_in, cutOff_lt, Hp.put_ne, Int.reduceToNat, Nat.reduceMul, Nat.reduceAdd, Nat.reduceLeDiff, Nat.reduceSub, Nat.reduceEqDiff])
    | (refine awp_region_eff (id := 13) [0, 1, 2, 3, 4, 5, 6, 7, 8, 9, 10, 11, 12, 13, 14, 15, 16, 17, 18, 19, 20, 21, 22] mixed (by decide +kernel) ?_; simp only [List.map_cons, List.map_nil, atO, List.getD_cons_zero, List.getD_cons_succ]; simp (disch := first | omega | (apply Hp.ne_of <;> assumption) | fail) only [go_sem, hx0, wrap_in, cutOff_lt, Hp.put_ne, Int.reduceToNat, Nat.reduceMul, Nat.reduceAdd, Nat.reduceLeDiff, Nat.reduceSub, Nat.reduceEqDiff])
    | (refine awp_region_eff (id := 14) [0, 1, 2, 3, 4, 5, 6, 7, 8] mixed (by decide +kernel) ?_; simp only [List.map_cons, List.map_nil, atO, List.getD_cons_zero, List.getD_cons_succ]; simp (disch := first | omega | (apply Hp.ne_of <;> assumption) | fail) only [go_sem, hx0, wrap_in, cutOff_lt, Hp.put_ne, Int.reduceToNat, Nat.reduceMul, Nat.reduceAdd, Nat.reduceLeDiff, Nat.reduceSub, Nat.reduceEqDiff])
    | (refine awp_region_eff (id := 17) [0, 1, 2, 3, 4, 5, 6, 7, 8, 9, 10, 11, 12, 13, 14] mixed (by decide +kernel) ?_; simp only [List.map_cons, List.map_nil, atO, List.getD_cons_zero, List.getD_cons_succ]; simp (disch := first | omega | (apply Hp.ne_of <;> assumption) | fail) only [go_sem, hx0, wrap_in, cutOff_lt, Hp.put_ne, Int.reduceToNat, Nat.reduceMul, Nat.reduceAdd, Nat.reduceLeDiff, Nat.reduceSub, Nat.reduceEqDiff])
    | (refine awp_region_draw (id := 22) mixed (by decide +kernel) ?_; simp (disch := first | omega | (apply Hp.ne_of <;> assumption) | fail) only [go_sem, hx0, wrap_in, cutOff_lt, Hp.put_ne, Int.reduceToNat, Nat.reduceMul, Nat.reduceAdd, Nat.reduceLeDiff, Nat.reduceSub, Nat.reduceEqDiff])
    | (refine hK _ _ ?_; clear hK K)
    | refine awp_block ?_
    | (refine awp_cond rfl (fun hc => ?_) (fun hc => ?_) <;> (try contradiction) <;> (try simp only [Bool.and_eq_true, Bool.or_eq_true, Bool.and_eq_false_iff, Bool.or_eq_false_iff, decide_eq_true_eq, decide_eq_false_iff_not, Bool.not_eq_true', Bool.not_eq_false', Int.not_lt, Int.not_le] at hc))
    | (refine awp_skip ?_; try simp only [go_sem, hx0])
    | (refine awp_exit ?_; try simp only [go_sem, hx0, Int.reduceToNat, Nat.reduceMul, Nat.reduceAdd, Nat.reduceLeDiff, Nat.reduceSub, Nat.reduceEqDiff])
    | (refine awp_ret ?_; try simp only [go_sem, hx0, Int.reduceToNat, Nat.reduceMul, Nat.reduceAdd, Nat.reduceLeDiff, Nat.reduceSub, Nat.reduceEqDiff])
    | (refine vAlloc_intro (by simp only [go_sem, hx0]) fun b hb => ?_; (try simp only [Hp.put_none] at hb); simp (disch := first | omega | (apply Hp.ne_of <;> assumption) | fail) only [go_sem, hx0, wrap_in, cutOff_lt, Hp.put_ne, Int.reduceToNat, Nat.reduceMul, Nat.reduceAdd, Nat.reduceLeDiff, Nat.reduceSub, Nat.reduceEqDiff])
    | (refine vBox_intro (by simp only [go_sem, hx0]) fun b hb => ?_; (try simp only [Hp.put_none] at hb); simp (disch := first | omega | (apply Hp.ne_of <;> assumption) | fail) only [go_sem, hx0, wrap_in, cutOff_lt, Hp.put_ne, Int.reduceToNat, Nat.reduceMul, Nat.reduceAdd, Nat.reduceLeDiff, Nat.reduceSub, Nat.reduceEqDiff])
    | (refine ap_intro ?_; simp (disch := first | omega | (apply Hp.ne_of <;> assumption) | fail) only [go_sem, hx0, wrap_in, cutOff_lt, Hp.put_ne, Int.reduceToNat, Nat.reduceMul, Nat.reduceAdd, Nat.reduceLeDiff, Nat.reduceSub, Nat.reduceEqDiff])
    | (refine And.intro (by first | omega | (simp +contextual; done) | (simp +contextual; intros; omega)) ?_)
    | (refine vcall_raw cb_14 (pcall_of (merge_c _ _ _ (by omega) (by omega)) ?_))
    | (refine vcall_raw cb_14 (pcall_of (merge_nil _ _ (by omega)) ?_))
    | (refine vcall_raw cb_17 (pcall_of (same_eqs ec _ (by omega)) ?_))
    | (refine vcall_raw cb_17 (pcall_of (same_is _ _ (by omega)) ?_))
    | (refine vcall_raw cb_16 (pcall_of (upto_c _ _ _ (by omega)) ?_))
    | (refine ⟨_, vcall_raw cb_16 (upto_c _ _ _ (by omega)), ?_⟩; try (simp (disch := first | omega | (apply Hp.ne_of <;> assumption) | fail) only [go_sem, hx0, wrap_in, cutOff_lt, Hp.put_ne, Int.reduceToNat, Nat.reduceMul, Nat.reduceAdd, Nat.reduceLeDiff, Nat.reduceSub, Nat.reduceEqDiff]))
    | (refine ⟨_, vcall_raw cb_14 (merge_c _ _ _ (by omega) (by omega)), ?_⟩; try (simp (disch := first | omega | (apply Hp.ne_of <;> assumption) | fail) only [go_sem, hx0, wrap_in, cutOff_lt, Hp.put_ne, Int.reduceToNat, Nat.reduceMul, Nat.reduceAdd, Nat.reduceLeDiff, Nat.reduceSub, Nat.reduceEqDiff]))
    | (refine ⟨_, vcall_raw cb_17 (same_eqs eu _ (by omega)), ?_⟩; try (simp (disch := first | omega | (apply Hp.ne_of <;> assumption) | fail) only [go_sem, hx0, wrap_in, cutOff_lt, Hp.put_ne, Int.reduceToNat, Nat.reduceMul, Nat.reduceAdd, Nat.reduceLeDiff, Nat.reduceSub, Nat.reduceEqDiff]))
    | (refine hKo _ _ ?_)
    | (clear hK K))
    · rename_i h1 h2
      exact absurd (drop_nth (hd.out.trans (mg_left (by omega) (by rcases h2.2 with h | h; exact .inl (by omega); exact .inr h)))).1 hc
    · rename_i h1 h2
      have := drop_nth (hd.out.trans (mg_left (i := i) (k := k) (by omega) (by rcases h2.2 with h | h; exact .inl (by omega); exact .inr h)))
      refine hKr _ _ (next_mk (i + 1, k) ⟨rfl, by (try simp only); omega, by (try simp only); omega, ?_⟩ (by (try simp only); omega) (by rw [show i + 1 + k = i + k + 1 by omega]; (simp only [go_sem, LLe, Nat.reduceAdd, AV.raw.injEq, Value.int.injEq, Value.slice.injEq, Value.pointer.injEq]; try omega)))
      simp only
      rw [show i + 1 + k = i + k + 1 by omega]
      exact this.2.1
    · rename_i h1 h2
      have := drop_nth (hd.out.trans (mg_right (i := i) (k := k) (by omega) (by rcases h2 with h | h; exact .inl (by omega); exact .inr h.2)))
      rcases hc with h | h
      · omega
      · exact absurd this.1 h
    · rename_i h1 h2
      have := drop_nth (hd.out.trans (mg_right (i := i) (k := k) (by omega) (by rcases h2 with h | h; exact .inl (by omega); exact .inr h.2)))
      refine hKr _ _ (next_mk (i, k + 1) ⟨rfl, by (try simp only); omega, by (try simp only); omega, ?_⟩ (by (try simp only); omega) (by rw [show i + (k + 1) = i + k + 1 by omega]; (simp only [go_sem, LLe, Nat.reduceAdd, AV.raw.injEq, Value.int.injEq, Value.slice.injEq, Value.pointer.injEq]; try omega)))
      exact this.2.1
    · refine pretw (.inr rfl) rfl ?_; simp only [go_sem]
      rw [← hB]
      exact RLe.drop _ ((Hp.Sub.refl _).put _ hb)
end Go.Proofs.Ytfjjdhhppmppnaa

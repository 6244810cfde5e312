/- EditsUpto tells the truth. No conditions. -/
import Derived.Test.YtfjjdhhppmppnaaLwAll
set_option linter.all false
namespace Go.Proofs.Ytfjjdhhppmppnaa
open Go Go.Fc
theorem same_eq {a b : List GEdit} (e : a = b) (H : Hp) (h : a.length ≤ 1000000) : PCall Try.prog 17 [slOf eGEdit 5 a, slOf eGEdit 5 b] H (.raw (.bool true)) := e ▸ same_is a H h
theorem uptoE_uptoE (l : List GEdit) (t u : Int) : uptoE (uptoE l t) u = uptoE l (if u < t then u else t) := by
  unfold uptoE
  rw [List.filter_filter]
  congr 1
  funext y
  rw [Bool.eq_iff_iff]
  simp only [Bool.and_eq_true, decide_eq_true_eq]
  split <;> omega
theorem few_1 (x : GEdit) (H : Hp) (f : Nat → List AV) (hf : f 0 = eGEdit x) : PCall Try.prog 13 [.sl true 5 1 f] H (slOf eGEdit 5 [cutE x]) :=
  acalls_weak (args' := [slOf eGEdit 5 [x]]) ⟨VLe.sl (fun i hi => by match i, hi with | 0, _ => exact hf), trivial⟩ (few_c [x] H)
theorem insert_1 (l : List GEdit) (x : GEdit) (H : Hp) (f : Nat → List AV) (hf : f 0 = eGEdit x) (h : l.length ≤ 1000) : PCall Try.prog 12 [slOf eGEdit 5 l, .sl true 5 1 f] H (slOf eGEdit 5 (insOne l x)) :=
  acalls_weak (args' := [slOf eGEdit 5 l, slOf eGEdit 5 [x]]) ⟨VLe.refl _ _, VLe.sl (fun i hi => by match i, hi with | 0, _ => exact hf), trivial⟩ (insert_c l [x] H h (by simp))
theorem nth_1 {α : Type} [Inhabited α] (a : α) : nth [a] 0 = a := (rfl)
/-- What is inserted is found, and nothing lost. -/
theorem insOne_found (l : List GEdit) (x : GEdit) : ∃ i, i < (insOne l x).length ∧ nth (insOne l x) i = x ∧ (insOne l x).take i ++ (insOne l x).drop (i + 1) = l := by
  have e := List.takeWhile_append_dropWhile (p := fun y : GEdit => decide (y.at_ ≤ x.at_)) (l := l)
  refine ⟨(l.takeWhile fun y => decide (y.at_ ≤ x.at_)).length, ?_, ?_, ?_⟩
  · rw [insOne_len]
    have := congrArg List.length e
    rw [List.length_append] at this
    omega
  · simp [nth, insOne]
  · have h1 : (insOne l x).take (l.takeWhile fun y => decide (y.at_ ≤ x.at_)).length = l.takeWhile fun y => decide (y.at_ ≤ x.at_) := by
      rw [insOne, List.append_assoc, List.take_left]
    have h2 : (insOne l x).drop ((l.takeWhile fun y => decide (y.at_ ≤ x.at_)).length + 1) = l.dropWhile fun y => decide (y.at_ ≤ x.at_) := by
      rw [insOne, show (l.takeWhile fun y => decide (y.at_ ≤ x.at_)).length + 1 = (l.takeWhile (fun y => decide (y.at_ ≤ x.at_)) ++ [x]).length by simp, List.drop_left]
    rw [h1, h2, e]
theorem src_take {H : Hp} {b : Bool} {m : List GEdit} {k n : Nat} (hk : k ≤ m.length) (hn : n = k) : Src H 5 (.sl b 5 n fun i => eGEdit (nth m i)) ((m.take k).map eGEdit) := by
  subst hn
  exact src_sl (by simp; omega) (fun i hi => by simp [nth, hi, show i < m.length by omega]) fun i hi => eGEdit_ok _
theorem src_drop {H : Hp} {b : Bool} {m : List GEdit} {k n : Nat} (hn : n = m.length - k) : Src H 5 (.sl b 5 n fun i => eGEdit (nth m (k + i))) ((m.drop k).map eGEdit) := by
  subst hn
  exact src_sl (by simp) (fun i hi => by simp [nth, show k + i < m.length by omega]) fun i hi => eGEdit_ok _
set_option maxHeartbeats 800000 in
set_option maxRecDepth 10000 in
theorem lawUpto_c (l0 : List GEdit) (x : GCut) (H : Hp) : PCall Try.prog 4 [slOf eGEdit 5 l0, .agg (eGCut x)] H (.raw (.bool true)) := by
  have la := fewE_len l0
  refine pcall_enter Try.func4 rfl (by simp only [Try.ntmps4, List.length_cons, List.length_nil, Nat.reduceAdd, Nat.reduceSub, List.replicate, List.cons_append, List.nil_append]; rfl) ?_
  repeat' (first
    | refine awp_seq_k fun K hK => ?_
    | (refine awp_region_vcl ?_; simp (disch := first | omega | (apply Hp.ne_of <;> assumption) | fail) only [go_sem, nth_1, wrap_in, cutOff_lt, Hp.put_ne, Int.reduceToNat, Nat.reduceMul, Nat.reduceAdd, Nat.reduceLeDiff, Nat.reduceSub, Nat.reduceEqDiff])
    | (refine awp_region_draw (id := 4) mixed (by decide +kernel) ?_; simp (disch := first | omega | (apply Hp.ne_of <;> assumption) | fail) only [go_sem, nth_1, wrap_in, cutOff_lt, Hp.put_ne, Int.reduceToNat, Nat.reduceMul, Nat.reduceAdd, Nat.reduceLeDiff, Nat.reduceSub, Nat.reduceEqDiff])
    | (refine awp_region_eff (id := 14) [0, 1, 2, 3, 5, 6, 7, 8, 4, 9, 10] mixed (by decide +kernel) ?_; simp only [List.map_cons, List.map_nil, atO, List.getD_cons_zero, List.getD_cons_succ]; simp (disch := first | omega | (apply Hp.ne_of <;> assumption) | fail) only [go_sem, nth_1, wrap_in, cutOff_lt, Hp.put_ne, Int.reduceToNat, Nat.reduceMul, Nat.reduceAdd, Nat.reduceLeDiff, Nat.reduceSub, Nat.reduceEqDiff])
    | (refine awp_region_eff (id := 16) [0, 1, 2, 3, 4, 5, 6, 7, 8] mixed (by decide +kernel) ?_; simp only [List.map_cons, List.map_nil, atO, List.getD_cons_zero, List.getD_cons_succ]; simp (disch := first | omega | (apply Hp.ne_of <;> assumption) | fail) only [go_sem, nth_1, wrap_in, cutOff_lt, Hp.put_ne, Int.reduceToNat, Nat.reduceMul, Nat.reduceAdd, Nat.reduceLeDiff, Nat.reduceSub, Nat.reduceEqDiff])
    | (refine hK _ _ ?_; clear hK K)
    | refine awp_block ?_
    | (refine awp_cond rfl (fun hc => ?_) (fun hc => ?_) <;> (try contradiction) <;> (try simp only [Bool.and_eq_true, Bool.or_eq_true, Bool.and_eq_false_iff, Bool.or_eq_false_iff, decide_eq_true_eq, decide_eq_false_iff_not, Bool.not_eq_true', Bool.not_eq_false', Int.not_lt, Int.not_le] at hc))
    | (refine awp_skip ?_; try simp only [go_sem, nth_1])
    | (refine awp_exit ?_; try simp only [go_sem, nth_1, Int.reduceToNat, Nat.reduceMul, Nat.reduceAdd, Nat.reduceLeDiff, Nat.reduceSub, Nat.reduceEqDiff])
    | (refine awp_ret ?_; try simp only [go_sem, nth_1, Int.reduceToNat, Nat.reduceMul, Nat.reduceAdd, Nat.reduceLeDiff, Nat.reduceSub, Nat.reduceEqDiff])
    | (refine vAlloc_intro (by simp only [go_sem, nth_1]) fun b hb => ?_; (try simp only [Hp.put_none] at hb); simp (disch := first | omega | (apply Hp.ne_of <;> assumption) | fail) only [go_sem, nth_1, wrap_in, cutOff_lt, Hp.put_ne, Int.reduceToNat, Nat.reduceMul, Nat.reduceAdd, Nat.reduceLeDiff, Nat.reduceSub, Nat.reduceEqDiff])
    | (refine vBox_intro (by simp only [go_sem, nth_1]) fun b hb => ?_; (try simp only [Hp.put_none] at hb); simp (disch := first | omega | (apply Hp.ne_of <;> assumption) | fail) only [go_sem, nth_1, wrap_in, cutOff_lt, Hp.put_ne, Int.reduceToNat, Nat.reduceMul, Nat.reduceAdd, Nat.reduceLeDiff, Nat.reduceSub, Nat.reduceEqDiff])
    | (refine ap_intro ?_; simp (disch := first | omega | (apply Hp.ne_of <;> assumption) | fail) only [go_sem, nth_1, wrap_in, cutOff_lt, Hp.put_ne, Int.reduceToNat, Nat.reduceMul, Nat.reduceAdd, Nat.reduceLeDiff, Nat.reduceSub, Nat.reduceEqDiff])
    | (refine And.intro (by first | omega | (simp +contextual; done)) ?_)
    | (refine vcall_raw cb_11 (pcall_of (shown_c _) ?_))
    | (refine vcall_raw cb_13 (pcall_of (few_c _ _) ?_))
    | (refine vcall_raw cb_13 (pcall_of (few_1 x.x _ _ rfl) ?_))
    | (refine vcall_raw cb_16 (pcall_of (upto_c _ _ _ (by first | omega | (refine Nat.le_trans (uptoE_len _ _) ?_; omega))) ?_))
    | (refine ⟨_, vcall_raw cb_16 (upto_c _ _ _ (by first | omega | (refine Nat.le_trans (uptoE_len _ _) ?_; omega))), ?_⟩; try (simp (disch := first | omega | (apply Hp.ne_of <;> assumption) | fail) only [go_sem, nth_1, wrap_in, cutOff_lt, Hp.put_ne, Int.reduceToNat, Nat.reduceMul, Nat.reduceAdd, Nat.reduceLeDiff, Nat.reduceSub, Nat.reduceEqDiff]))
    | (refine vcall_raw cb_17 (pcall_of (same_eq (uptoE_uptoE _ _ _) _ (by refine Nat.le_trans (uptoE_len _ _) (Nat.le_trans (uptoE_len _ _) ?_); omega)) ?_))
    | (refine vcall_raw cb_12 (pcall_of (insert_1 _ (cutE x.x) _ _ rfl (by omega)) ?_))
    | (clear hK K))
  · have := insOne_len (fewE l0) (cutE x.x)
    omega
  · have hfound := insOne_found (fewE l0) (cutE x.x)
    generalize insOne (fewE l0) (cutE x.x) = m at *
    generalize fewE l0 = l at *
    generalize cutE x.x = y at *
    have hKo := hK; clear hK
    generalize hB : (Hp.put _ b _ : Hp) = B
    have hy0 : B b = some ⟨33, eGEdit y, 5⟩ := by rw [← hB, Hp.put_same]
    refine awp_loop_inv (S := Nat × Int) [(11, 4), (55, 33)] (fun s H' => s.1 ≤ m.length ∧ B.Sub H' ∧ (0 ≤ s.2 ∨ (s.2 = -1 ∧ RowKit.Hid (∀ i, i < s.1 → ¬ (nth m i = y ∧ m.take i ++ m.drop (i + 1) = l))))) (fun s => [(11, .raw (.int .i64 s.2)), (12, .raw (.int .i64 s.1))]) (fun s => m.length - s.1) (0, -1) ⟨by omega, Hp.Sub.refl _, .inr ⟨rfl, fun i hi => by omega⟩⟩ (by (simp only [go_sem, LLe, Nat.reduceAdd, AV.raw.injEq, Value.int.injEq, Value.slice.injEq, Value.pointer.injEq]; try omega)) ?_
    rintro ⟨k, z⟩ H' ⟨hk, hsub, hz⟩ Kr hKr
    simp only at hk hsub hz
    have hy := hsub _ _ hy0
    simp (disch := first | omega | (apply Hp.ne_of <;> assumption) | fail) only [go_sem, hy, wrap_in, cutOff_lt, Hp.put_ne, Int.reduceToNat, Nat.reduceMul, Nat.reduceAdd, Nat.reduceLeDiff, Nat.reduceSub, Nat.reduceEqDiff]
    repeat' (first
    | refine awp_seq_k fun K hK => ?_
    | (refine awp_region_vcl ?_; simp (disch := first | omega | (apply Hp.ne_of <;> assumption) | fail) only [go_sem, hy, wrap_in, cutOff_lt, Hp.put_ne, Int.reduceToNat, Nat.reduceMul, Nat.reduceAdd, Nat.reduceLeDiff, Nat.reduceSub, Nat.reduceEqDiff])
    | (refine awp_region_draw (id := 4) mixed (by decide +kernel) ?_; simp (disch := first | omega | (apply Hp.ne_of <;> assumption) | fail) only [go_sem, hy, wrap_in, cutOff_lt, Hp.put_ne, Int.reduceToNat, Nat.reduceMul, Nat.reduceAdd, Nat.reduceLeDiff, Nat.reduceSub, Nat.reduceEqDiff])
    | (refine awp_region_eff (id := 14) [0, 1, 2, 3, 5, 6, 7, 8, 4, 9, 10] mixed (by decide +kernel) ?_; simp only [List.map_cons, List.map_nil, atO, List.getD_cons_zero, List.getD_cons_succ]; simp (disch := first | omega | (apply Hp.ne_of <;> assumption) | fail) only [go_sem, hy, wrap_in, cutOff_lt, Hp.put_ne, Int.reduceToNat, Nat.reduceMul, Nat.reduceAdd, Nat.reduceLeDiff, Nat.reduceSub, Nat.reduceEqDiff])
    | (refine awp_region_eff (id := 16) [0, 1, 2, 3, 4, 5, 6, 7, 8] mixed (by decide +kernel) ?_; simp only [List.map_cons, List.map_nil, atO, List.getD_cons_zero, List.getD_cons_succ]; simp (disch := first | omega | (apply Hp.ne_of <;> assumption) | fail) only [go_sem, hy, wrap_in, cutOff_lt, Hp.put_ne, Int.reduceToNat, Nat.reduceMul, Nat.reduceAdd, Nat.reduceLeDiff, Nat.reduceSub, Nat.reduceEqDiff])
    | (refine hK _ _ ?_; clear hK K)
    | refine awp_block ?_
    | (refine awp_cond rfl (fun hc => ?_) (fun hc => ?_) <;> (try contradiction) <;> (try simp only [Bool.and_eq_true, Bool.or_eq_true, Bool.and_eq_false_iff, Bool.or_eq_false_iff, decide_eq_true_eq, decide_eq_false_iff_not, Bool.not_eq_true', Bool.not_eq_false', Int.not_lt, Int.not_le] at hc))
    | (refine awp_skip ?_; try simp only [go_sem, hy])
    | (refine awp_exit ?_; try simp only [go_sem, hy, Int.reduceToNat, Nat.reduceMul, Nat.reduceAdd, Nat.reduceLeDiff, Nat.reduceSub, Nat.reduceEqDiff])
    | (refine awp_ret ?_; try simp only [go_sem, hy, Int.reduceToNat, Nat.reduceMul, Nat.reduceAdd, Nat.reduceLeDiff, Nat.reduceSub, Nat.reduceEqDiff])
    | (refine vAlloc_intro (by simp only [go_sem, hy]) fun b hb => ?_; (try simp only [Hp.put_none] at hb); simp (disch := first | omega | (apply Hp.ne_of <;> assumption) | fail) only [go_sem, hy, wrap_in, cutOff_lt, Hp.put_ne, Int.reduceToNat, Nat.reduceMul, Nat.reduceAdd, Nat.reduceLeDiff, Nat.reduceSub, Nat.reduceEqDiff])
    | (refine vBox_intro (by simp only [go_sem, hy]) fun b hb => ?_; (try simp only [Hp.put_none] at hb); simp (disch := first | omega | (apply Hp.ne_of <;> assumption) | fail) only [go_sem, hy, wrap_in, cutOff_lt, Hp.put_ne, Int.reduceToNat, Nat.reduceMul, Nat.reduceAdd, Nat.reduceLeDiff, Nat.reduceSub, Nat.reduceEqDiff])
    | (refine ap_intro ?_; simp (disch := first | omega | (apply Hp.ne_of <;> assumption) | fail) only [go_sem, hy, wrap_in, cutOff_lt, Hp.put_ne, Int.reduceToNat, Nat.reduceMul, Nat.reduceAdd, Nat.reduceLeDiff, Nat.reduceSub, Nat.reduceEqDiff])
    | (refine And.intro (by first | omega | (simp +contextual; done)) ?_)
    | (refine append_own (e := 33) (sz := 5) (ys := (m.take k).map eGEdit) un_22 sz_33 (by rw [ze_33]; rfl) (Own.lit (Hp.Sub.refl _) _ _ _) (src_take (by omega) (by omega)) (by rw [by_33]; simp; omega) (by simp; omega) ?_; rintro a1 H1 hO1 -; rw [List.nil_append] at hO1; clear hy; have hy := (hsub.trans hO1.sub) _ _ hy0; simp (disch := first | omega | (apply Hp.ne_of <;> assumption) | fail) only [go_sem, hy, hy, wrap_in, cutOff_lt, Hp.put_ne, Int.reduceToNat, Nat.reduceMul, Nat.reduceAdd, Nat.reduceLeDiff, Nat.reduceSub, Nat.reduceEqDiff])
    | (refine append_own (e := 33) (sz := 5) (ys := (m.drop (k + 1)).map eGEdit) un_22 sz_33 (by rw [ze_33]; rfl) hO1 (src_drop (by omega)) (by rw [by_33]; simp; omega) (by simp; omega) ?_; rintro a2 H2 hO2 -; rw [← List.map_append] at hO2; clear hy; have hy := (hsub.trans hO2.sub) _ _ hy0; simp (disch := first | omega | (apply Hp.ne_of <;> assumption) | fail) only [go_sem, hy, hy, wrap_in, cutOff_lt, Hp.put_ne, Int.reduceToNat, Nat.reduceMul, Nat.reduceAdd, Nat.reduceLeDiff, Nat.reduceSub, Nat.reduceEqDiff])
    | (refine vcall_raw cb_17 (pcall_of (pcall_lift (same_c (m.take k ++ m.drop (k + 1)) l H0 (by simp; omega) (by omega)) rfl ⟨Lst.vto ⟨hO2.1, .inr hO2⟩, VTo.refl _ _, trivial⟩) ?_))
    | (refine hKo _ _ ?_)
    | (clear hK K))
    · refine hKr _ _ (next_mk (k + 1, (k : Int)) ⟨by (try simp only); omega, hsub.trans hO2.sub, .inl (by (try simp only); omega)⟩ (by (try simp only); omega) (by (simp only [go_sem, LLe, Nat.reduceAdd, AV.raw.injEq, Value.int.injEq, Value.slice.injEq, Value.pointer.injEq]; try omega)))
    · refine hKr _ _ (next_mk (k + 1, z) ⟨by (try simp only); omega, hsub.trans hO2.sub, .inr ?_⟩ (by (try simp only); omega) (by (simp only [go_sem, LLe, Nat.reduceAdd, AV.raw.injEq, Value.int.injEq, Value.slice.injEq, Value.pointer.injEq]; try omega)))
      rcases hz with hz | ⟨hz, hall⟩
      · omega
      · refine ⟨hz, fun i hi => ?_⟩
        by_cases e : i = k
        · subst e
          rintro ⟨e1, e2⟩
          rcases hc with h | h
          · exact h e1
          · exact h e2
        · exact hall i (by (try simp only at hi); omega)
    · refine pretw (.inr rfl) rfl ?_; simp only [go_sem]
      refine RLe.trans (RLe.of_eq _ ?_) (RLe.drop _ ?_)
      · refine rawBool_eq ?_
        rw [decide_eq_true_eq]
        rcases hz with hz | ⟨hz, hall⟩
        · exact hz
        · obtain ⟨i, hi, hi2⟩ := hfound
          rcases hc with h | h
          · exact absurd hi2 (hall i (by omega))
          · exact h
      · refine Hp.Sub.trans ?_ hsub
        rw [← hB]
        repeat' (first | exact Hp.Sub.refl _ | refine put_own ?_ ?_ _)
        all_goals (simp [*])
end Go.Proofs.Ytfjjdhhppmppnaa

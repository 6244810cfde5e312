/- Merge and Upto of edits. No conditions. -/
import Derived.Test.YtfjjdhhppmppnaaEd
set_option linter.all false
namespace Go.Proofs.Ytfjjdhhppmppnaa
open Go Go.Fc
theorem if_le_pos {α : Type} {a b : Nat} {x y : α} (h : a ≤ b) : (if a ≤ b then x else y) = x := if_pos h
theorem merge_c (a b : List GEdit) (H : Hp) (h1 : a.length ≤ 1000) (h2 : b.length ≤ 1000) : PCall Try.prog 14 [slOf eGEdit 5 a, slOf eGEdit 5 b] H (slOf eGEdit 5 (insAll a b)) := by
  refine pcall_enter Try.func14 rfl (by simp only [Try.ntmps14, List.length_cons, List.length_nil, Nat.reduceAdd, Nat.reduceSub, List.replicate, List.cons_append, List.nil_append]; rfl) ?_
  repeat' (first
    | refine awp_seq_k fun K hK => ?_
    | (refine awp_region_vcl ?_; simp (disch := omega) only [go_sem, wrap_in, cutOff_lt, Hp.put_ne, Int.reduceToNat, Nat.reduceMul, Nat.reduceAdd, Nat.reduceLeDiff, Nat.reduceSub, Nat.reduceEqDiff])
    | (refine hK _ _ ?_; clear hK K)
    | refine awp_block ?_
    | (refine awp_cond rfl (fun hc => ?_) (fun hc => ?_) <;> (try contradiction) <;> (try simp only [Bool.and_eq_true, Bool.or_eq_true, Bool.and_eq_false_iff, Bool.or_eq_false_iff, decide_eq_true_eq, decide_eq_false_iff_not, Bool.not_eq_true', Bool.not_eq_false', Int.not_lt, Int.not_le] at hc))
    | (refine awp_skip ?_; try simp only [go_sem])
    | (refine awp_exit ?_; try simp only [go_sem, Int.reduceToNat, Nat.reduceMul, Nat.reduceAdd, Nat.reduceLeDiff, Nat.reduceSub, Nat.reduceEqDiff])
    | (refine awp_ret ?_; try simp only [go_sem, Int.reduceToNat, Nat.reduceMul, Nat.reduceAdd, Nat.reduceLeDiff, Nat.reduceSub, Nat.reduceEqDiff])
    | (refine vAlloc_intro (by simp only [go_sem]) fun b hb => ?_; (try simp only [Hp.put_none] at hb); simp (disch := omega) only [go_sem, wrap_in, cutOff_lt, Hp.put_ne, Int.reduceToNat, Nat.reduceMul, Nat.reduceAdd, Nat.reduceLeDiff, Nat.reduceSub, Nat.reduceEqDiff])
    | (refine vBox_intro (by simp only [go_sem]) fun b hb => ?_; (try simp only [Hp.put_none] at hb); simp (disch := omega) only [go_sem, wrap_in, cutOff_lt, Hp.put_ne, Int.reduceToNat, Nat.reduceMul, Nat.reduceAdd, Nat.reduceLeDiff, Nat.reduceSub, Nat.reduceEqDiff])
    | (refine ap_intro ?_; simp (disch := omega) only [go_sem, wrap_in, cutOff_lt, Hp.put_ne, Int.reduceToNat, Nat.reduceMul, Nat.reduceAdd, Nat.reduceLeDiff, Nat.reduceSub, Nat.reduceEqDiff])
    | (refine And.intro (by first | omega | (simp +contextual; done) | (simp +contextual; intros; omega)) ?_)
    | (refine vcall_raw cb_12 (pcall_of (insert_c a b _ h1 h2) ?_))
    | (clear hK K))
  refine pret (.inr rfl) rfl ?_; simp only [go_sem]
set_option maxHeartbeats 400000 in
set_option maxRecDepth 10000 in
theorem upto1_c (y : GEdit) (t : Int) (H : Hp) : PCall Try.prog 39 [.agg (eGEdit y), .ip [.raw (.int .i64 t)]] H (.raw (.bool (decide (t < y.at_)))) := by
  refine pcall_enter Try.func39 rfl (by simp only [Try.ntmps39, List.length_cons, List.length_nil, Nat.reduceAdd, Nat.reduceSub, List.replicate, List.cons_append, List.nil_append]; rfl) ?_
  repeat' (first
    | refine awp_seq_k fun K hK => ?_
    | (refine awp_region_vcl ?_; simp (disch := omega) only [go_sem, wrap_in, cutOff_lt, Hp.put_ne, Int.reduceToNat, Nat.reduceMul, Nat.reduceAdd, Nat.reduceLeDiff, Nat.reduceSub, Nat.reduceEqDiff])
    | (refine hK _ _ ?_; clear hK K)
    | refine awp_block ?_
    | (refine awp_cond rfl (fun hc => ?_) (fun hc => ?_) <;> (try contradiction) <;> (try simp only [Bool.and_eq_true, Bool.or_eq_true, Bool.and_eq_false_iff, Bool.or_eq_false_iff, decide_eq_true_eq, decide_eq_false_iff_not, Bool.not_eq_true', Bool.not_eq_false', Int.not_lt, Int.not_le] at hc))
    | (refine awp_skip ?_; try simp only [go_sem])
    | (refine awp_exit ?_; try simp only [go_sem, Int.reduceToNat, Nat.reduceMul, Nat.reduceAdd, Nat.reduceLeDiff, Nat.reduceSub, Nat.reduceEqDiff])
    | (refine awp_ret ?_; try simp only [go_sem, Int.reduceToNat, Nat.reduceMul, Nat.reduceAdd, Nat.reduceLeDiff, Nat.reduceSub, Nat.reduceEqDiff])
    | (refine vAlloc_intro (by simp only [go_sem]) fun b hb => ?_; (try simp only [Hp.put_none] at hb); simp (disch := omega) only [go_sem, wrap_in, cutOff_lt, Hp.put_ne, Int.reduceToNat, Nat.reduceMul, Nat.reduceAdd, Nat.reduceLeDiff, Nat.reduceSub, Nat.reduceEqDiff])
    | (refine vBox_intro (by simp only [go_sem]) fun b hb => ?_; (try simp only [Hp.put_none] at hb); simp (disch := omega) only [go_sem, wrap_in, cutOff_lt, Hp.put_ne, Int.reduceToNat, Nat.reduceMul, Nat.reduceAdd, Nat.reduceLeDiff, Nat.reduceSub, Nat.reduceEqDiff])
    | (refine ap_intro ?_; simp (disch := omega) only [go_sem, wrap_in, cutOff_lt, Hp.put_ne, Int.reduceToNat, Nat.reduceMul, Nat.reduceAdd, Nat.reduceLeDiff, Nat.reduceSub, Nat.reduceEqDiff])
    | (refine And.intro (by first | omega | (simp +contextual; done) | (simp +contextual; intros; omega)) ?_)
    | (clear hK K))
  refine pretw (.inr rfl) rfl ?_; simp only [go_sem]
  exact RLe.drop _ ((Hp.Sub.refl _).put _ hb)
set_option maxHeartbeats 800000 in
set_option maxRecDepth 10000 in
theorem delete_raw {B H : Hp} {b0 c : Nat} {L : List GEdit} {t : Int} {bt : Nat} (ha : Own B H 33 5 (.raw (.slice (some ⟨b0, 0, none⟩) L.length c)) (L.map eGEdit)) (hc : L.length ≤ c) (hB0 : B b0 = none) (hb0 : H b0 = some ⟨33, (L.map eGEdit).flatten, c * 5⟩) (hl : L.length ≤ 1000) (hbt : H bt = some ⟨3, [.raw (.int .i64 t)], 1⟩) :
    ACalls Try.prog 38 [.raw (.slice (some ⟨b0, 0, none⟩) L.length c), .clo 39 [ptrAt bt]] H (fun r H' => Own B H' 33 5 r ((uptoE L t).map eGEdit)) := by
  have hne : bt ≠ b0 := by rintro rfl; rw [hbt] at hb0; cases hb0
  refine acalls_enter Try.func38 rfl (by simp only [Try.ntmps38, List.length_cons, List.length_nil, Nat.reduceAdd, Nat.reduceSub, List.replicate, List.cons_append, List.nil_append]; rfl) ?_
  repeat' (first
    | refine awp_seq_k fun K hK => ?_
    | (refine awp_region_vcl ?_; simp (disch := omega) only [go_sem, wrap_in, cutOff_lt, Hp.put_ne, Int.reduceToNat, Nat.reduceMul, Nat.reduceAdd, Nat.reduceLeDiff, Nat.reduceSub, Nat.reduceEqDiff])
    | (refine hK _ _ ?_; clear hK K)
    | refine awp_block ?_
    | (refine awp_cond rfl (fun hc => ?_) (fun hc => ?_) <;> (try contradiction) <;> (try simp only [Bool.and_eq_true, Bool.or_eq_true, Bool.and_eq_false_iff, Bool.or_eq_false_iff, decide_eq_true_eq, decide_eq_false_iff_not, Bool.not_eq_true', Bool.not_eq_false', Int.not_lt, Int.not_le] at hc))
    | (refine awp_skip ?_; try simp only [go_sem])
    | (refine awp_exit ?_; try simp only [go_sem, Int.reduceToNat, Nat.reduceMul, Nat.reduceAdd, Nat.reduceLeDiff, Nat.reduceSub, Nat.reduceEqDiff])
    | (refine awp_ret ?_; try simp only [go_sem, Int.reduceToNat, Nat.reduceMul, Nat.reduceAdd, Nat.reduceLeDiff, Nat.reduceSub, Nat.reduceEqDiff])
    | (refine vAlloc_intro (by simp only [go_sem]) fun b hb => ?_; (try simp only [Hp.put_none] at hb); simp (disch := omega) only [go_sem, wrap_in, cutOff_lt, Hp.put_ne, Int.reduceToNat, Nat.reduceMul, Nat.reduceAdd, Nat.reduceLeDiff, Nat.reduceSub, Nat.reduceEqDiff])
    | (refine vBox_intro (by simp only [go_sem]) fun b hb => ?_; (try simp only [Hp.put_none] at hb); simp (disch := omega) only [go_sem, wrap_in, cutOff_lt, Hp.put_ne, Int.reduceToNat, Nat.reduceMul, Nat.reduceAdd, Nat.reduceLeDiff, Nat.reduceSub, Nat.reduceEqDiff])
    | (refine ap_intro ?_; simp (disch := omega) only [go_sem, wrap_in, cutOff_lt, Hp.put_ne, Int.reduceToNat, Nat.reduceMul, Nat.reduceAdd, Nat.reduceLeDiff, Nat.reduceSub, Nat.reduceEqDiff])
    | (refine And.intro (by first | omega | (simp +contextual; done) | (simp +contextual; intros; omega)) ?_)
    | (refine vcall_raw cb_35 (pcall_of (pcall_lift (indexFunc_edit (n := L.length) (f := fun i => eGEdit (nth L i)) (g := 39) (caps := [.ip [.raw (.int .i64 t)]]) (p := fun i => decide (t < (nth L i).at_)) cb_39 (fun i hi => rfl) (fun i hi => by simp only [eGEdit_take]; exact upto1_c _ _ _) (by omega)) rfl ⟨VTo.own ha (f := fun i => eGEdit (nth L i)) (by simp) (fun i hi => by simp [nth, hi]), VTo.clo ⟨VTo.ptr hbt, trivial⟩, trivial⟩) ?_))
    | (clear hK K))
  · refine ret_mk (.inr rfl) rfl _ _ (RLe.refl _ _) ?_; simp only [go_sem]
    have hU : uptoE L t = L := by
      rcases idxF_spec (fun i => decide (t < (nth L i).at_)) L.length with ⟨i, hi, e, hp, hno⟩ | ⟨e, hno⟩
      · omega
      · refine List.filter_eq_self.2 fun y hy => ?_
        obtain ⟨i, hi, rfl⟩ := List.getElem_of_mem hy
        have := hno i hi
        simp only [nth_get hi] at this
        simpa using this
    rw [hU]; exact ha
  · rcases idxF_spec (fun i => decide (t < (nth L i).at_)) L.length with ⟨i, hi, e, hp, hno⟩ | ⟨e, hno⟩
    rotate_left
    · exact absurd e ‹_›
    rw [e]
    simp (disch := omega) only [go_sem, wrap_in, cutOff_lt, Hp.put_ne, Int.reduceToNat, Nat.reduceMul, Nat.reduceAdd, Nat.reduceLeDiff, Nat.reduceSub, Nat.reduceEqDiff]
    have hKo := hK; clear hK
    have hU0 : uptoE (L.take i) t = L.take i := by
      refine List.filter_eq_self.2 fun y hy => ?_
      obtain ⟨k, hk, rfl⟩ := List.getElem_of_mem hy
      simp only [List.length_take] at hk
      have := hno k (by omega)
      simp only [nth_get (show k < L.length by omega)] at this
      simpa using this
    have hU1 : uptoE (L.take (i + 1)) t = L.take i := by
      rw [uptoE_succ L t hi, hU0, if_neg (by simpa using hp), List.append_nil]
    have hln : (L.take i).length = i := by rw [List.length_take]; omega
    refine awp_loop_inv (S := Nat × List GEdit) [(5, 3), (16, 20)] (fun s H' => i < s.1 ∧ s.1 ≤ L.length ∧ s.2.length = L.length ∧ (uptoE (L.take s.1) t).length < s.1 ∧ RowKit.Hid (s.2.take (uptoE (L.take s.1) t).length = uptoE (L.take s.1) t ∧ ∀ k, s.1 ≤ k → nth s.2 k = nth L k) ∧ B.Sub H' ∧ H' bt = some ⟨3, [.raw (.int .i64 t)], 1⟩ ∧ H' b0 = some ⟨33, (s.2.map eGEdit).flatten, c * 5⟩) (fun s => [(5, .raw (.int .i64 (uptoE (L.take s.1) t).length)), (6, .raw (.int .i64 s.1))]) (fun s => L.length - s.1) (i + 1, L) ?_ (by rw [hU1, hln]; (simp only [go_sem, LLe, Nat.reduceAdd, AV.raw.injEq, Value.int.injEq, Value.slice.injEq, Value.pointer.injEq]; try omega)) ?_
    · refine ⟨by (try simp only); omega, by (try simp only); omega, rfl, ?_, ⟨?_, fun _ _ => rfl⟩, ha.1, hbt, hb0⟩
      · simp only [hU1, hln]; omega
      · simp only [hU1, hln]
    rintro ⟨j, M⟩ H' ⟨hj1, hj2, hM, hlt, hMM, hsub, hbt', hb0'⟩ Kr hKr
    simp only at hj1 hj2 hM hlt hMM hb0'
    generalize hU : (uptoE (L.take j) t).length = u at *
    simp (disch := first | omega | (apply Hp.ne_of <;> assumption) | fail) only [go_sem, hb0', if_le_pos, wrap_in, cutOff_lt, Hp.put_ne, Int.reduceToNat, Nat.reduceMul, Nat.reduceAdd, Nat.reduceLeDiff, Nat.reduceSub, Nat.reduceEqDiff]
    repeat' (first
    | refine awp_seq_k fun K hK => ?_
    | (refine awp_region_vcl ?_; simp (disch := first | omega | (apply Hp.ne_of <;> assumption) | fail) only [go_sem, hb0', if_le_pos, wrap_in, cutOff_lt, Hp.put_ne, Int.reduceToNat, Nat.reduceMul, Nat.reduceAdd, Nat.reduceLeDiff, Nat.reduceSub, Nat.reduceEqDiff])
    | (refine hK _ _ ?_; clear hK K)
    | refine awp_block ?_
    | (refine awp_cond rfl (fun hc => ?_) (fun hc => ?_) <;> (try contradiction) <;> (try simp only [Bool.and_eq_true, Bool.or_eq_true, Bool.and_eq_false_iff, Bool.or_eq_false_iff, decide_eq_true_eq, decide_eq_false_iff_not, Bool.not_eq_true', Bool.not_eq_false', Int.not_lt, Int.not_le] at hc))
    | (refine awp_skip ?_; try simp only [go_sem, hb0', if_le_pos])
    | (refine awp_exit ?_; try simp only [go_sem, hb0', if_le_pos, Int.reduceToNat, Nat.reduceMul, Nat.reduceAdd, Nat.reduceLeDiff, Nat.reduceSub, Nat.reduceEqDiff])
    | (refine awp_ret ?_; try simp only [go_sem, hb0', if_le_pos, Int.reduceToNat, Nat.reduceMul, Nat.reduceAdd, Nat.reduceLeDiff, Nat.reduceSub, Nat.reduceEqDiff])
    | (refine vAlloc_intro (by simp only [go_sem, hb0', if_le_pos]) fun b hb => ?_; (try simp only [Hp.put_none] at hb); simp (disch := first | omega | (apply Hp.ne_of <;> assumption) | fail) only [go_sem, hb0', if_le_pos, wrap_in, cutOff_lt, Hp.put_ne, Int.reduceToNat, Nat.reduceMul, Nat.reduceAdd, Nat.reduceLeDiff, Nat.reduceSub, Nat.reduceEqDiff])
    | (refine vBox_intro (by simp only [go_sem, hb0', if_le_pos]) fun b hb => ?_; (try simp only [Hp.put_none] at hb); simp (disch := first | omega | (apply Hp.ne_of <;> assumption) | fail) only [go_sem, hb0', if_le_pos, wrap_in, cutOff_lt, Hp.put_ne, Int.reduceToNat, Nat.reduceMul, Nat.reduceAdd, Nat.reduceLeDiff, Nat.reduceSub, Nat.reduceEqDiff])
    | (refine ap_intro ?_; simp (disch := first | omega | (apply Hp.ne_of <;> assumption) | fail) only [go_sem, hb0', if_le_pos, wrap_in, cutOff_lt, Hp.put_ne, Int.reduceToNat, Nat.reduceMul, Nat.reduceAdd, Nat.reduceLeDiff, Nat.reduceSub, Nat.reduceEqDiff])
    | (refine And.intro (by first | omega | (simp +contextual; done) | (simp +contextual; intros; omega)) ?_)
    | (refine hKo _ _ ?_)
    | (clear hK K))
    · refine vcall_clo cb_39 (pcall_of (pcall_lift (upto1_c (nth M j) t H0) rfl ⟨VTo.refl _ _, VTo.ptr (r := ⟨3, [.raw (.int .i64 t)], 1⟩) (by rw [Hp.put_ne _ _ (Hp.ne_of hbt' hb)]; exact hbt'), trivial⟩) ?_)
      have hbb := Hp.ne_of hb0' hb
      have hbt2 := Hp.ne_of hbt' hb
      have hln2 : j < L.length := by omega
      repeat' (first
    | refine awp_seq_k fun K hK => ?_
    | (refine awp_region_vcl ?_; simp (disch := first | omega | (apply Hp.ne_of <;> assumption) | fail) only [go_sem, hb0', if_le_pos, wrap_in, cutOff_lt, Hp.put_ne, Int.reduceToNat, Nat.reduceMul, Nat.reduceAdd, Nat.reduceLeDiff, Nat.reduceSub, Nat.reduceEqDiff])
    | (refine hK _ _ ?_; clear hK K)
    | refine awp_block ?_
    | (refine awp_cond rfl (fun hc => ?_) (fun hc => ?_) <;> (try contradiction) <;> (try simp only [Bool.and_eq_true, Bool.or_eq_true, Bool.and_eq_false_iff, Bool.or_eq_false_iff, decide_eq_true_eq, decide_eq_false_iff_not, Bool.not_eq_true', Bool.not_eq_false', Int.not_lt, Int.not_le] at hc))
    | (refine awp_skip ?_; try simp only [go_sem, hb0', if_le_pos])
    | (refine awp_exit ?_; try simp only [go_sem, hb0', if_le_pos, Int.reduceToNat, Nat.reduceMul, Nat.reduceAdd, Nat.reduceLeDiff, Nat.reduceSub, Nat.reduceEqDiff])
    | (refine awp_ret ?_; try simp only [go_sem, hb0', if_le_pos, Int.reduceToNat, Nat.reduceMul, Nat.reduceAdd, Nat.reduceLeDiff, Nat.reduceSub, Nat.reduceEqDiff])
    | (refine vAlloc_intro (by simp only [go_sem, hb0', if_le_pos]) fun b hb => ?_; (try simp only [Hp.put_none] at hb); simp (disch := first | omega | (apply Hp.ne_of <;> assumption) | fail) only [go_sem, hb0', if_le_pos, wrap_in, cutOff_lt, Hp.put_ne, Int.reduceToNat, Nat.reduceMul, Nat.reduceAdd, Nat.reduceLeDiff, Nat.reduceSub, Nat.reduceEqDiff])
    | (refine vBox_intro (by simp only [go_sem, hb0', if_le_pos]) fun b hb => ?_; (try simp only [Hp.put_none] at hb); simp (disch := first | omega | (apply Hp.ne_of <;> assumption) | fail) only [go_sem, hb0', if_le_pos, wrap_in, cutOff_lt, Hp.put_ne, Int.reduceToNat, Nat.reduceMul, Nat.reduceAdd, Nat.reduceLeDiff, Nat.reduceSub, Nat.reduceEqDiff])
    | (refine ap_intro ?_; simp (disch := first | omega | (apply Hp.ne_of <;> assumption) | fail) only [go_sem, hb0', if_le_pos, wrap_in, cutOff_lt, Hp.put_ne, Int.reduceToNat, Nat.reduceMul, Nat.reduceAdd, Nat.reduceLeDiff, Nat.reduceSub, Nat.reduceEqDiff])
    | (refine And.intro (by first | omega | (simp +contextual; done) | (simp +contextual; intros; omega)) ?_)
    | (clear hK K))
      · have hsucc : uptoE (L.take (j + 1)) t = uptoE (L.take j) t ++ [nth L j] := by
          rw [uptoE_succ L t hln2, if_pos]
          rw [← hMM.2 j (Nat.le_refl _)]; exact hc
        have hl1 : (uptoE (L.take (j + 1)) t).length = u + 1 := by rw [hsucc, List.length_append, hU]; rfl
        refine hKr _ _ (next_mk (j + 1, M.set u (nth M j)) ⟨by (try simp only); omega, by (try simp only); omega, by simpa using hM, by (try simp only); omega, ⟨?_, fun k hk => ?_⟩, ?_, ?_, ?_⟩ (by (try simp only); omega) (by rw [hl1]; (simp only [go_sem, LLe, Nat.reduceAdd, AV.raw.injEq, Value.int.injEq, Value.slice.injEq, Value.pointer.injEq]; try omega)))
        · simp only [hl1]
          rw [hsucc, take_nth (by simp; omega), List.take_set_of_le (Nat.le_refl _), hMM.1, ← hMM.2 j (Nat.le_refl _)]
          simp [nth, show u < M.length by omega]
        · simp only at hk
          rw [← hMM.2 k (by omega)]
          simp [nth, List.getElem?_set_ne (show u ≠ k by omega)]
        · exact put_own (put_own hsub (hsub.none hb) _) hB0 _
        · rw [Hp.put_ne _ _ hne, Hp.put_ne _ _ hbt2]; exact hbt'
        · rw [Hp.put_same, ← eGEdit_set (by omega)]
          simp only [splice, (eGEdit_ok _).1]
      · have hsucc : uptoE (L.take (j + 1)) t = uptoE (L.take j) t := by
          rw [uptoE_succ L t hln2, if_neg, List.append_nil]
          rw [← hMM.2 j (Nat.le_refl _)]; omega
        refine hKr _ _ (next_mk (j + 1, M) ⟨by (try simp only); omega, by (try simp only); omega, hM, by (try simp only); rw [hsucc]; omega, ⟨?_, fun k hk => hMM.2 k (by simp only at hk; omega)⟩, put_own hsub (hsub.none hb) _, ?_, ?_⟩ (by (try simp only); omega) (by rw [hsucc, hU]; (simp only [go_sem, LLe, Nat.reduceAdd, AV.raw.injEq, Value.int.injEq, Value.slice.injEq, Value.pointer.injEq]; try omega)))
        · simp only [hsucc, hU]; exact hMM.1
        · rw [Hp.put_ne _ _ hbt2]; exact hbt'
        · rw [Hp.put_ne _ _ hbb]; exact hb0'
    · refine clear_own (e := 33) (sz := 5) un_22 ze_33 rfl rfl hb0' (by omega) (by rw [eGEdit_flat]; omega) (by (try simp only); omega) ?_
      repeat' (first
    | refine awp_seq_k fun K hK => ?_
    | (refine awp_region_vcl ?_; simp (disch := first | omega | (apply Hp.ne_of <;> assumption) | fail) only [go_sem, hb0', if_le_pos, wrap_in, cutOff_lt, Hp.put_ne, Int.reduceToNat, Nat.reduceMul, Nat.reduceAdd, Nat.reduceLeDiff, Nat.reduceSub, Nat.reduceEqDiff])
    | (refine hK _ _ ?_; clear hK K)
    | refine awp_block ?_
    | (refine awp_cond rfl (fun hc => ?_) (fun hc => ?_) <;> (try contradiction) <;> (try simp only [Bool.and_eq_true, Bool.or_eq_true, Bool.and_eq_false_iff, Bool.or_eq_false_iff, decide_eq_true_eq, decide_eq_false_iff_not, Bool.not_eq_true', Bool.not_eq_false', Int.not_lt, Int.not_le] at hc))
    | (refine awp_skip ?_; try simp only [go_sem, hb0', if_le_pos])
    | (refine awp_exit ?_; try simp only [go_sem, hb0', if_le_pos, Int.reduceToNat, Nat.reduceMul, Nat.reduceAdd, Nat.reduceLeDiff, Nat.reduceSub, Nat.reduceEqDiff])
    | (refine awp_ret ?_; try simp only [go_sem, hb0', if_le_pos, Int.reduceToNat, Nat.reduceMul, Nat.reduceAdd, Nat.reduceLeDiff, Nat.reduceSub, Nat.reduceEqDiff])
    | (refine vAlloc_intro (by simp only [go_sem, hb0', if_le_pos]) fun b hb => ?_; (try simp only [Hp.put_none] at hb); simp (disch := first | omega | (apply Hp.ne_of <;> assumption) | fail) only [go_sem, hb0', if_le_pos, wrap_in, cutOff_lt, Hp.put_ne, Int.reduceToNat, Nat.reduceMul, Nat.reduceAdd, Nat.reduceLeDiff, Nat.reduceSub, Nat.reduceEqDiff])
    | (refine vBox_intro (by simp only [go_sem, hb0', if_le_pos]) fun b hb => ?_; (try simp only [Hp.put_none] at hb); simp (disch := first | omega | (apply Hp.ne_of <;> assumption) | fail) only [go_sem, hb0', if_le_pos, wrap_in, cutOff_lt, Hp.put_ne, Int.reduceToNat, Nat.reduceMul, Nat.reduceAdd, Nat.reduceLeDiff, Nat.reduceSub, Nat.reduceEqDiff])
    | (refine ap_intro ?_; simp (disch := first | omega | (apply Hp.ne_of <;> assumption) | fail) only [go_sem, hb0', if_le_pos, wrap_in, cutOff_lt, Hp.put_ne, Int.reduceToNat, Nat.reduceMul, Nat.reduceAdd, Nat.reduceLeDiff, Nat.reduceSub, Nat.reduceEqDiff])
    | (refine And.intro (by first | omega | (simp +contextual; done) | (simp +contextual; intros; omega)) ?_)
    | (clear hK K))
      obtain rfl : j = L.length := by omega
      rw [List.take_length] at hU hMM
      refine ret_mk (.inr rfl) rfl _ _ (rle_cut (n := u * 5) _) ?_
      have hcut : List.take (u * 5) (List.take (u * 5) (List.map eGEdit M).flatten ++ (List.replicate (L.length - u) (List.map AV.raw [.int .i64 0, .string ⟨#[]⟩, .int .i64 0, .int .i64 0, .string ⟨#[]⟩])).flatten ++ List.drop (u * 5 + (List.replicate (L.length - u) (List.map AV.raw [.int .i64 0, .string ⟨#[]⟩, .int .i64 0, .int .i64 0, .string ⟨#[]⟩])).flatten.length) (List.map eGEdit M).flatten) = (List.map eGEdit (uptoE L t)).flatten := by
        rw [List.append_assoc, List.take_append_of_le_length (by rw [List.length_take, eGEdit_flat]; omega), List.take_take, Nat.min_self, take_flatten _ _ (eGEdit_lens M), ← List.map_take, hMM.1]
      refine ⟨put_own hsub hB0 _, fun y hy => ?_, .inr ⟨b0, c, ?_, ?_, hB0, ?_⟩⟩
      · obtain ⟨y, _, rfl⟩ := List.mem_map.1 hy
        exact eGEdit_ok y
      · simp only [go_sem, List.length_map, hU]
      · simp only [List.length_map, hU]; omega
      · rw [Hp.put_same]; exact congrArg (fun z => some (Row.mk 33 z (c * 5))) hcut
theorem delete_c {B H : Hp} {a : AV} {L : List GEdit} {t : Int} {bt : Nat} (ha : Own B H 33 5 a (L.map eGEdit)) (hl : L.length ≤ 1000) (hbt : H bt = some ⟨3, [.raw (.int .i64 t)], 1⟩) :
    ACalls Try.prog 38 [a, .clo 39 [ptrAt bt]] H (fun r H' => Own B H' 33 5 r ((uptoE L t).map eGEdit)) := by
  rcases ha.2.2 with ⟨h0, hform⟩ | ⟨b0, c, rfl, hc, hB0, hb0⟩
  · obtain rfl : L = [] := by simpa using h0
    refine acalls_enter Try.func38 rfl (by simp only [Try.ntmps38, List.length_cons, List.length_nil, Nat.reduceAdd, Nat.reduceSub, List.replicate, List.cons_append, List.nil_append]; rfl) ?_
    repeat' (first
    | refine awp_seq_k fun K hK => ?_
    | (refine awp_region_vcl ?_; simp (disch := omega) only [go_sem, wrap_in, cutOff_lt, Hp.put_ne, Int.reduceToNat, Nat.reduceMul, Nat.reduceAdd, Nat.reduceLeDiff, Nat.reduceSub, Nat.reduceEqDiff])
    | (refine hK _ _ ?_; clear hK K)
    | refine awp_block ?_
    | (refine awp_cond rfl (fun hc => ?_) (fun hc => ?_) <;> (try contradiction) <;> (try simp only [Bool.and_eq_true, Bool.or_eq_true, Bool.and_eq_false_iff, Bool.or_eq_false_iff, decide_eq_true_eq, decide_eq_false_iff_not, Bool.not_eq_true', Bool.not_eq_false', Int.not_lt, Int.not_le] at hc))
    | (refine awp_skip ?_; try simp only [go_sem])
    | (refine awp_exit ?_; try simp only [go_sem, Int.reduceToNat, Nat.reduceMul, Nat.reduceAdd, Nat.reduceLeDiff, Nat.reduceSub, Nat.reduceEqDiff])
    | (refine awp_ret ?_; try simp only [go_sem, Int.reduceToNat, Nat.reduceMul, Nat.reduceAdd, Nat.reduceLeDiff, Nat.reduceSub, Nat.reduceEqDiff])
    | (refine vAlloc_intro (by simp only [go_sem]) fun b hb => ?_; (try simp only [Hp.put_none] at hb); simp (disch := omega) only [go_sem, wrap_in, cutOff_lt, Hp.put_ne, Int.reduceToNat, Nat.reduceMul, Nat.reduceAdd, Nat.reduceLeDiff, Nat.reduceSub, Nat.reduceEqDiff])
    | (refine vBox_intro (by simp only [go_sem]) fun b hb => ?_; (try simp only [Hp.put_none] at hb); simp (disch := omega) only [go_sem, wrap_in, cutOff_lt, Hp.put_ne, Int.reduceToNat, Nat.reduceMul, Nat.reduceAdd, Nat.reduceLeDiff, Nat.reduceSub, Nat.reduceEqDiff])
    | (refine ap_intro ?_; simp (disch := omega) only [go_sem, wrap_in, cutOff_lt, Hp.put_ne, Int.reduceToNat, Nat.reduceMul, Nat.reduceAdd, Nat.reduceLeDiff, Nat.reduceSub, Nat.reduceEqDiff])
    | (refine And.intro (by first | omega | (simp +contextual; done) | (simp +contextual; intros; omega)) ?_)
    | (refine vcall_raw cb_35 (pcall_of (pcall_lift (r := .raw (.int .i64 (-1))) (indexFunc_edit (n := 0) (f := fun i => eGEdit (nth ([] : List GEdit) i)) (g := 39) (caps := [.ip [.raw (.int .i64 t)]]) (p := fun i => decide (t < (nth ([] : List GEdit) i).at_)) cb_39 (fun i hi => by omega) (fun i hi => by omega) (by omega)) rfl ⟨VTo.own ha (f := fun i => eGEdit (nth ([] : List GEdit) i)) (by simp) (fun i hi => by omega), VTo.clo ⟨VTo.ptr hbt, trivial⟩, trivial⟩) ?_))
    | (clear hK K))
    refine ret_mk (.inr rfl) rfl _ _ (RLe.refl _ _) ?_; simp only [go_sem]
    exact ha
  · have e : (L.map eGEdit).length = L.length := by simp
    rw [e] at ha hc ⊢
    exact delete_raw ha hc hB0 hb0 hl hbt
set_option maxHeartbeats 400000 in
set_option maxRecDepth 10000 in
theorem upto_c (l : List GEdit) (t : Int) (H : Hp) (h1 : l.length ≤ 1000) : PCall Try.prog 16 [slOf eGEdit 5 l, .raw (.int .i64 t)] H (slOf eGEdit 5 (uptoE l t)) := by
  refine pcall_enter Try.func16 rfl (by simp only [Try.ntmps16, List.length_cons, List.length_nil, Nat.reduceAdd, Nat.reduceSub, List.replicate, List.cons_append, List.nil_append]; rfl) ?_
  repeat' (first
    | refine awp_seq_k fun K hK => ?_
    | (refine awp_region_vcl ?_; simp (disch := omega) only [go_sem, wrap_in, cutOff_lt, Hp.put_ne, Int.reduceToNat, Nat.reduceMul, Nat.reduceAdd, Nat.reduceLeDiff, Nat.reduceSub, Nat.reduceEqDiff])
    | (refine hK _ _ ?_; clear hK K)
    | refine awp_block ?_
    | (refine awp_cond rfl (fun hc => ?_) (fun hc => ?_) <;> (try contradiction) <;> (try simp only [Bool.and_eq_true, Bool.or_eq_true, Bool.and_eq_false_iff, Bool.or_eq_false_iff, decide_eq_true_eq, decide_eq_false_iff_not, Bool.not_eq_true', Bool.not_eq_false', Int.not_lt, Int.not_le] at hc))
    | (refine awp_skip ?_; try simp only [go_sem])
    | (refine awp_exit ?_; try simp only [go_sem, Int.reduceToNat, Nat.reduceMul, Nat.reduceAdd, Nat.reduceLeDiff, Nat.reduceSub, Nat.reduceEqDiff])
    | (refine awp_ret ?_; try simp only [go_sem, Int.reduceToNat, Nat.reduceMul, Nat.reduceAdd, Nat.reduceLeDiff, Nat.reduceSub, Nat.reduceEqDiff])
    | (refine vAlloc_intro (by simp only [go_sem]) fun b hb => ?_; (try simp only [Hp.put_none] at hb); simp (disch := omega) only [go_sem, wrap_in, cutOff_lt, Hp.put_ne, Int.reduceToNat, Nat.reduceMul, Nat.reduceAdd, Nat.reduceLeDiff, Nat.reduceSub, Nat.reduceEqDiff])
    | (refine vBox_intro (by simp only [go_sem]) fun b hb => ?_; (try simp only [Hp.put_none] at hb); simp (disch := omega) only [go_sem, wrap_in, cutOff_lt, Hp.put_ne, Int.reduceToNat, Nat.reduceMul, Nat.reduceAdd, Nat.reduceLeDiff, Nat.reduceSub, Nat.reduceEqDiff])
    | (refine ap_intro ?_; simp (disch := omega) only [go_sem, wrap_in, cutOff_lt, Hp.put_ne, Int.reduceToNat, Nat.reduceMul, Nat.reduceAdd, Nat.reduceLeDiff, Nat.reduceSub, Nat.reduceEqDiff])
    | (refine And.intro (by first | omega | (simp +contextual; done) | (simp +contextual; intros; omega)) ?_)
    | (refine vcall_raw cb_34 ((clone_edit (css := l.map eGEdit) (by simp) (fun i hi => by simp [nth, hi]) (fun cs hcs => by obtain ⟨y, _, rfl⟩ := List.mem_map.1 hcs; exact eGEdit_ok y) (by omega)).mono ?_); rintro a H1 hO)
    | (refine vcall_raw cb_38 ((delete_c (t := t) hO h1 (hO.sub _ _ (Hp.put_same _ _ _))).mono ?_); rintro a' H2 hO2)
    | (clear hK K))
  refine pretw (.inr rfl) rfl ?_; simp only [go_sem]
  exact hO2.freeze_list.trans (RLe.drop _ ((Hp.Sub.refl _).put _ hb))
end Go.Proofs.Ytfjjdhhppmppnaa

/- edits.Insert. No conditions. -/
import Derived.Test.YtfjjdhhppmppnaaSl2
import Derived.Test.YtfjjdhhppmppnaaEdM
set_option linter.all false
namespace Go.Proofs.Ytfjjdhhppmppnaa
open Go Go.Fc
theorem insert_edit {B H : Hp} {a : AV} {i : Nat} {f : Nat → List AV} {css : List (List AV)} (ha : Own B H 33 5 a css) (hf : (f 0).length = 5 ∧ ones (f 0) = true) (hi : i ≤ css.length) (hl : css.length ≤ 1000000) :
    ACalls Try.prog 37 [a, .raw (.int .i64 i), .sl true 5 1 f] H (fun r H' => Own B H' 33 5 r (css.take i ++ [f 0] ++ css.drop i) ∧ ∀ c r, H c = some r → ¬ ownsB a c → H' c = some r) := by
  rcases ha.2.2 with ⟨rfl, hform⟩ | ⟨b, c, rfl, hc, hB, hb⟩
  · obtain rfl : i = 0 := by simpa using hi
    exact insert_edit_nil ha hf hform
  · refine (insert_edit_raw rfl ha hc hB hb hf hi hl).mono ?_
    rintro r H' ⟨h1, h2⟩
    refine ⟨h1, fun c' r' h3 h4 => h2 c' r' h3 ?_⟩
    rintro rfl
    exact h4 ⟨_, _, rfl⟩
set_option maxHeartbeats 400000 in
set_option maxRecDepth 10000 in
theorem insert1_c (y x : GEdit) (H : Hp) : PCall Try.prog 36 [.agg (eGEdit y), .ip (eGEdit x)] H (.raw (.bool (decide (x.at_ < y.at_)))) := by
  refine pcall_enter Try.func36 rfl (by simp only [Try.ntmps36, List.length_cons, List.length_nil, Nat.reduceAdd, Nat.reduceSub, List.replicate, List.cons_append, List.nil_append]; rfl) ?_
  repeat' (first
    | refine awp_seq_k fun K hK => ?_
    | (refine awp_region_vcl ?_; simp (disch := omega) only [go_sem, wrap_in, cutOff_lt, Hp.put_ne, Int.reduceToNat, Nat.reduceMul, Nat.reduceAdd, Nat.reduceLeDiff, Nat.reduceSub, Nat.reduceEqDiff])
    | (refine hK _ _ ?_; clear hK K)
    | refine awp_block ?_
    | (refine awp_cond rfl (fun hc => ?_) (fun hc => ?_) <;> (try contradiction) <;> (try simp only [Bool.and_eq_true, Bool.or_eq_true, Bool.and_eq_false_iff, Bool.or_eq_false_iff, decide_eq_true_eq, decide_eq_false_iff_not, Bool.not_eq_true', Bool.not_eq_false', Int.not_lt, Int.not_le] at hc))
    | (refine awp_skip ?_; try simp only [go_sem])
    | (refine awp_exit ?_; try simp only [go_sem, Int.reduceToNat, Nat.reduceMul, Nat.reduceAdd, Nat.reduceLeDiff, Nat.reduceSub, Nat.reduceEqDiff])
    | (refine awp_ret ?_; try simp only [go_sem, Int.reduceToNat, Nat.reduceMul, Nat.reduceAdd, Nat.reduceLeDiff, Nat.reduceSub, Nat.reduceEqDiff])
    | (refine vAlloc_intro (by simp only [go_sem]) fun b hb => ?_; (try simp only [Hp.put_none] at hb); simp (disch := omega) only [go_sem, wrap_in, cutOff_lt, Hp.put_ne, Int.reduceToNat, Nat.reduceMul, Nat.reduceAdd, Nat.reduceLeDiff, Nat.reduceSub, Nat.reduceEqDiff])
    | (refine vBox_intro (by simp only [go_sem]) fun b hb => ?_; (try simp only [Hp.put_none] at hb); simp (disch := omega) only [go_sem, wrap_in, cutOff_lt, Hp.put_ne, Int.reduceToNat, Nat.reduceMul, Nat.reduceAdd, Nat.reduceLeDiff, Nat.reduceSub, Nat.reduceEqDiff])
    | (refine ap_intro ?_; simp (disch := omega) only [go_sem, wrap_in, cutOff_lt, Hp.put_ne, Int.reduceToNat, Nat.reduceMul, Nat.reduceAdd, Nat.reduceLeDiff, Nat.reduceSub, Nat.reduceEqDiff])
    | (refine And.intro (by first | omega | (simp +contextual; done) | (simp +contextual; intros; omega)) ?_)
    | (clear hK K))
  refine pretw (.inr rfl) rfl ?_; simp only [go_sem]
  exact RLe.drop _ ((Hp.Sub.refl _).put _ hb)
set_option maxHeartbeats 800000 in
set_option maxRecDepth 10000 in
theorem insert_c (l all : List GEdit) (H : Hp) (h1 : l.length ≤ 1000) (h2 : all.length ≤ 1000) : PCall Try.prog 12 [slOf eGEdit 5 l, slOf eGEdit 5 all] H (slOf eGEdit 5 (insAll l all)) := by
  refine pcall_enter Try.func12 rfl (by simp only [Try.ntmps12, List.length_cons, List.length_nil, Nat.reduceAdd, Nat.reduceSub, List.replicate, List.cons_append, List.nil_append]; rfl) ?_
  repeat' (first
    | refine awp_seq_k fun K hK => ?_
    | (refine awp_region_vcl ?_; simp (disch := omega) only [go_sem, wrap_in, cutOff_lt, Hp.put_ne, Int.reduceToNat, Nat.reduceMul, Nat.reduceAdd, Nat.reduceLeDiff, Nat.reduceSub, Nat.reduceEqDiff])
    | (refine hK _ _ ?_; clear hK K)
    | refine awp_block ?_
    | (refine awp_cond rfl (fun hc => ?_) (fun hc => ?_) <;> (try contradiction) <;> (try simp only [Bool.and_eq_true, Bool.or_eq_true, Bool.and_eq_false_iff, Bool.or_eq_false_iff, decide_eq_true_eq, decide_eq_false_iff_not, Bool.not_eq_true', Bool.not_eq_false', Int.not_lt, Int.not_le] at hc))
    | (refine awp_skip ?_; try simp only [go_sem])
    | (refine awp_exit ?_; try simp only [go_sem, Int.reduceToNat, Nat.reduceMul, Nat.reduceAdd, Nat.reduceLeDiff, Nat.reduceSub, Nat.reduceEqDiff])
    | (refine awp_ret ?_; try simp only [go_sem, Int.reduceToNat, Nat.reduceMul, Nat.reduceAdd, Nat.reduceLeDiff, Nat.reduceSub, Nat.reduceEqDiff])
    | (refine vAlloc_intro (by simp only [go_sem]) fun b hb => ?_; (try simp only [Hp.put_none] at hb); simp (disch := omega) only [go_sem, wrap_in, cutOff_lt, Hp.put_ne, Int.reduceToNat, Nat.reduceMul, Nat.reduceAdd, Nat.reduceLeDiff, Nat.reduceSub, Nat.reduceEqDiff])
    | (refine vBox_intro (by simp only [go_sem]) fun b hb => ?_; (try simp only [Hp.put_none] at hb); simp (disch := omega) only [go_sem, wrap_in, cutOff_lt, Hp.put_ne, Int.reduceToNat, Nat.reduceMul, Nat.reduceAdd, Nat.reduceLeDiff, Nat.reduceSub, Nat.reduceEqDiff])
    | (refine ap_intro ?_; simp (disch := omega) only [go_sem, wrap_in, cutOff_lt, Hp.put_ne, Int.reduceToNat, Nat.reduceMul, Nat.reduceAdd, Nat.reduceLeDiff, Nat.reduceSub, Nat.reduceEqDiff])
    | (refine And.intro (by first | omega | (simp +contextual; done) | (simp +contextual; intros; omega)) ?_)
    | (refine vcall_raw cb_34 ((clone_edit (css := l.map eGEdit) (by simp) (fun i hi => by simp [nth, hi]) (fun cs hcs => by obtain ⟨y, _, rfl⟩ := List.mem_map.1 hcs; exact eGEdit_ok y) (by omega)).mono ?_); rintro a H1 hO)
    | (clear hK K))
  have hKo := hK; clear hK
  refine awp_loop_inv (S := Nat × AV) [(0, 1), (6, 2), (12, 17)] (fun s H' => s.1 ≤ all.length ∧ Own H H' 33 5 s.2 ((insAll l (all.take s.1)).map eGEdit)) (fun s => [(0, s.2), (12, .raw (.int .i64 s.1))]) (fun s => all.length - s.1) (0, a) ⟨by simp, by simpa [insAll] using hO⟩ (by (simp only [go_sem, LLe, Nat.reduceAdd, AV.raw.injEq, Value.int.injEq, Value.slice.injEq, Value.pointer.injEq]; try omega)) ?_
  clear hO
  rintro ⟨k, a'⟩ H2 ⟨hk, hO⟩ Kr hKr
  simp only at hk hO
  simp (disch := omega) only [go_sem, wrap_in, cutOff_lt, Hp.put_ne, Int.reduceToNat, Nat.reduceMul, Nat.reduceAdd, Nat.reduceLeDiff, Nat.reduceSub, Nat.reduceEqDiff]
  repeat' (first
    | refine awp_seq_k fun K hK => ?_
    | (refine awp_region_vcl ?_; simp (disch := omega) only [go_sem, wrap_in, cutOff_lt, Hp.put_ne, Int.reduceToNat, Nat.reduceMul, Nat.reduceAdd, Nat.reduceLeDiff, Nat.reduceSub, Nat.reduceEqDiff])
    | (refine hK _ _ ?_; clear hK K)
    | refine awp_block ?_
    | (refine awp_cond rfl (fun hc => ?_) (fun hc => ?_) <;> (try contradiction) <;> (try simp only [Bool.and_eq_true, Bool.or_eq_true, Bool.and_eq_false_iff, Bool.or_eq_false_iff, decide_eq_true_eq, decide_eq_false_iff_not, Bool.not_eq_true', Bool.not_eq_false', Int.not_lt, Int.not_le] at hc))
    | (refine awp_skip ?_; try simp only [go_sem])
    | (refine awp_exit ?_; try simp only [go_sem, Int.reduceToNat, Nat.reduceMul, Nat.reduceAdd, Nat.reduceLeDiff, Nat.reduceSub, Nat.reduceEqDiff])
    | (refine awp_ret ?_; try simp only [go_sem, Int.reduceToNat, Nat.reduceMul, Nat.reduceAdd, Nat.reduceLeDiff, Nat.reduceSub, Nat.reduceEqDiff])
    | (refine vAlloc_intro (by simp only [go_sem]) fun b hb => ?_; (try simp only [Hp.put_none] at hb); simp (disch := omega) only [go_sem, wrap_in, cutOff_lt, Hp.put_ne, Int.reduceToNat, Nat.reduceMul, Nat.reduceAdd, Nat.reduceLeDiff, Nat.reduceSub, Nat.reduceEqDiff])
    | (refine vBox_intro (by simp only [go_sem]) fun b hb => ?_; (try simp only [Hp.put_none] at hb); simp (disch := omega) only [go_sem, wrap_in, cutOff_lt, Hp.put_ne, Int.reduceToNat, Nat.reduceMul, Nat.reduceAdd, Nat.reduceLeDiff, Nat.reduceSub, Nat.reduceEqDiff])
    | (refine ap_intro ?_; simp (disch := omega) only [go_sem, wrap_in, cutOff_lt, Hp.put_ne, Int.reduceToNat, Nat.reduceMul, Nat.reduceAdd, Nat.reduceLeDiff, Nat.reduceSub, Nat.reduceEqDiff])
    | (refine And.intro (by first | omega | (simp +contextual; done) | (simp +contextual; intros; omega)) ?_)
    | (refine hKo _ _ ?_)
    | (clear hK K))
  · have hlen := insAll_len l (all.take k)
    generalize hL : insAll l (all.take k) = L at *
    have hL2 : L.length ≤ 2000 := by simp at hlen; omega
    have hO' := Own.put (r := ⟨33, eGEdit (nth all k), 5⟩) hO hb
    refine vcall_raw cb_35 (pcall_of (pcall_lift (indexFunc_edit (n := L.length) (f := fun i => eGEdit (nth L i)) (g := 36) (caps := [.ip (eGEdit (nth all k))]) (p := fun i => decide ((nth all k).at_ < (nth L i).at_)) cb_36 (fun i hi => rfl) (fun i hi => by simp only [eGEdit_take]; exact insert1_c _ _ _) (by omega)) rfl ⟨VTo.own hO' (f := fun i => eGEdit (nth L i)) (by simp) (fun i hi => by simp [nth, hi]), VTo.clo ⟨VTo.ptr (Hp.put_same _ _ _), trivial⟩, trivial⟩) ?_)
    rcases idxF_spec (fun i => decide ((nth all k).at_ < (nth L i).at_)) L.length with ⟨i, hi, e, hp, hno⟩ | ⟨e, hno⟩
    · rw [e]
      repeat' (first
    | refine awp_seq_k fun K hK => ?_
    | (refine awp_region_vcl ?_; simp (disch := omega) only [go_sem, wrap_in, cutOff_lt, Hp.put_ne, Int.reduceToNat, Nat.reduceMul, Nat.reduceAdd, Nat.reduceLeDiff, Nat.reduceSub, Nat.reduceEqDiff])
    | (refine hK _ _ ?_; clear hK K)
    | refine awp_block ?_
    | (refine awp_cond rfl (fun hc => ?_) (fun hc => ?_) <;> (try contradiction) <;> (try simp only [Bool.and_eq_true, Bool.or_eq_true, Bool.and_eq_false_iff, Bool.or_eq_false_iff, decide_eq_true_eq, decide_eq_false_iff_not, Bool.not_eq_true', Bool.not_eq_false', Int.not_lt, Int.not_le] at hc))
    | (refine awp_skip ?_; try simp only [go_sem])
    | (refine awp_exit ?_; try simp only [go_sem, Int.reduceToNat, Nat.reduceMul, Nat.reduceAdd, Nat.reduceLeDiff, Nat.reduceSub, Nat.reduceEqDiff])
    | (refine awp_ret ?_; try simp only [go_sem, Int.reduceToNat, Nat.reduceMul, Nat.reduceAdd, Nat.reduceLeDiff, Nat.reduceSub, Nat.reduceEqDiff])
    | (refine vAlloc_intro (by simp only [go_sem]) fun b hb => ?_; (try simp only [Hp.put_none] at hb); simp (disch := omega) only [go_sem, wrap_in, cutOff_lt, Hp.put_ne, Int.reduceToNat, Nat.reduceMul, Nat.reduceAdd, Nat.reduceLeDiff, Nat.reduceSub, Nat.reduceEqDiff])
    | (refine vBox_intro (by simp only [go_sem]) fun b hb => ?_; (try simp only [Hp.put_none] at hb); simp (disch := omega) only [go_sem, wrap_in, cutOff_lt, Hp.put_ne, Int.reduceToNat, Nat.reduceMul, Nat.reduceAdd, Nat.reduceLeDiff, Nat.reduceSub, Nat.reduceEqDiff])
    | (refine ap_intro ?_; simp (disch := omega) only [go_sem, wrap_in, cutOff_lt, Hp.put_ne, Int.reduceToNat, Nat.reduceMul, Nat.reduceAdd, Nat.reduceLeDiff, Nat.reduceSub, Nat.reduceEqDiff])
    | (refine And.intro (by first | omega | (simp +contextual; done) | (simp +contextual; intros; omega)) ?_)
    | (refine vcall_raw cb_37 ((insert_edit (i := i) (f := fun i => [eGEdit (nth all k)].getD i []) hO' (eGEdit_ok _) (by simp <;> omega) (by simp <;> omega)).mono ?_); rintro r H3 ⟨hO3, -⟩)
    | (refine hKr _ _ (next_mk (k + 1, r) ⟨by (try simp only); omega, ?_⟩ (by (try simp only); omega) (by (simp only [go_sem, LLe, Nat.reduceAdd, AV.raw.injEq, Value.int.injEq, Value.slice.injEq, Value.pointer.injEq]; try omega))))
    | (clear hK K))
      all_goals (try omega)
      rw [insAll_succ l all (by omega), hL, ← insOne_at (i := i) (by omega) (fun j hj => by have := hno j hj; simpa using this) (fun _ => by simpa using hp)]
      simpa only [List.map_append, List.map_take, List.map_drop, List.map_cons, List.map_nil, List.getD_cons_zero] using hO3
    · rw [e]
      have hll : (L.map eGEdit).length = L.length := by simp
      rcases hO'.2.2 with ⟨h0, rfl | ⟨g, rfl⟩⟩ | ⟨b', c', rfl, _⟩
      · rw [h0] at hll
        simp only [List.length_nil] at hll
        repeat' (first
    | refine awp_seq_k fun K hK => ?_
    | (refine awp_region_vcl ?_; simp (disch := omega) only [go_sem, wrap_in, cutOff_lt, Hp.put_ne, Int.reduceToNat, Nat.reduceMul, Nat.reduceAdd, Nat.reduceLeDiff, Nat.reduceSub, Nat.reduceEqDiff])
    | (refine hK _ _ ?_; clear hK K)
    | refine awp_block ?_
    | (refine awp_cond rfl (fun hc => ?_) (fun hc => ?_) <;> (try contradiction) <;> (try simp only [Bool.and_eq_true, Bool.or_eq_true, Bool.and_eq_false_iff, Bool.or_eq_false_iff, decide_eq_true_eq, decide_eq_false_iff_not, Bool.not_eq_true', Bool.not_eq_false', Int.not_lt, Int.not_le] at hc))
    | (refine awp_skip ?_; try simp only [go_sem])
    | (refine awp_exit ?_; try simp only [go_sem, Int.reduceToNat, Nat.reduceMul, Nat.reduceAdd, Nat.reduceLeDiff, Nat.reduceSub, Nat.reduceEqDiff])
    | (refine awp_ret ?_; try simp only [go_sem, Int.reduceToNat, Nat.reduceMul, Nat.reduceAdd, Nat.reduceLeDiff, Nat.reduceSub, Nat.reduceEqDiff])
    | (refine vAlloc_intro (by simp only [go_sem]) fun b hb => ?_; (try simp only [Hp.put_none] at hb); simp (disch := omega) only [go_sem, wrap_in, cutOff_lt, Hp.put_ne, Int.reduceToNat, Nat.reduceMul, Nat.reduceAdd, Nat.reduceLeDiff, Nat.reduceSub, Nat.reduceEqDiff])
    | (refine vBox_intro (by simp only [go_sem]) fun b hb => ?_; (try simp only [Hp.put_none] at hb); simp (disch := omega) only [go_sem, wrap_in, cutOff_lt, Hp.put_ne, Int.reduceToNat, Nat.reduceMul, Nat.reduceAdd, Nat.reduceLeDiff, Nat.reduceSub, Nat.reduceEqDiff])
    | (refine ap_intro ?_; simp (disch := omega) only [go_sem, wrap_in, cutOff_lt, Hp.put_ne, Int.reduceToNat, Nat.reduceMul, Nat.reduceAdd, Nat.reduceLeDiff, Nat.reduceSub, Nat.reduceEqDiff])
    | (refine And.intro (by first | omega | (simp +contextual; done) | (simp +contextual; intros; omega)) ?_)
    | (refine vcall_raw cb_37 ((insert_edit (i := 0) (f := fun i => [eGEdit (nth all k)].getD i []) hO' (eGEdit_ok _) (by simp <;> omega) (by simp <;> omega)).mono ?_); rintro r H3 ⟨hO3, -⟩)
    | (refine hKr _ _ (next_mk (k + 1, r) ⟨by (try simp only); omega, ?_⟩ (by (try simp only); omega) (by (simp only [go_sem, LLe, Nat.reduceAdd, AV.raw.injEq, Value.int.injEq, Value.slice.injEq, Value.pointer.injEq]; try omega))))
    | (clear hK K))
        all_goals (try omega)
        rw [insAll_succ l all (by omega), hL, ← insOne_at (i := 0) (by omega) (fun j hj => by omega) (fun _ => by omega)]
        simpa only [List.map_append, List.map_take, List.map_drop, List.map_cons, List.map_nil, List.getD_cons_zero] using hO3
      · rw [h0] at hll
        simp only [List.length_nil] at hll
        repeat' (first
    | refine awp_seq_k fun K hK => ?_
    | (refine awp_region_vcl ?_; simp (disch := omega) only [go_sem, wrap_in, cutOff_lt, Hp.put_ne, Int.reduceToNat, Nat.reduceMul, Nat.reduceAdd, Nat.reduceLeDiff, Nat.reduceSub, Nat.reduceEqDiff])
    | (refine hK _ _ ?_; clear hK K)
    | refine awp_block ?_
    | (refine awp_cond rfl (fun hc => ?_) (fun hc => ?_) <;> (try contradiction) <;> (try simp only [Bool.and_eq_true, Bool.or_eq_true, Bool.and_eq_false_iff, Bool.or_eq_false_iff, decide_eq_true_eq, decide_eq_false_iff_not, Bool.not_eq_true', Bool.not_eq_false', Int.not_lt, Int.not_le] at hc))
    | (refine awp_skip ?_; try simp only [go_sem])
    | (refine awp_exit ?_; try simp only [go_sem, Int.reduceToNat, Nat.reduceMul, Nat.reduceAdd, Nat.reduceLeDiff, Nat.reduceSub, Nat.reduceEqDiff])
    | (refine awp_ret ?_; try simp only [go_sem, Int.reduceToNat, Nat.reduceMul, Nat.reduceAdd, Nat.reduceLeDiff, Nat.reduceSub, Nat.reduceEqDiff])
    | (refine vAlloc_intro (by simp only [go_sem]) fun b hb => ?_; (try simp only [Hp.put_none] at hb); simp (disch := omega) only [go_sem, wrap_in, cutOff_lt, Hp.put_ne, Int.reduceToNat, Nat.reduceMul, Nat.reduceAdd, Nat.reduceLeDiff, Nat.reduceSub, Nat.reduceEqDiff])
    | (refine vBox_intro (by simp only [go_sem]) fun b hb => ?_; (try simp only [Hp.put_none] at hb); simp (disch := omega) only [go_sem, wrap_in, cutOff_lt, Hp.put_ne, Int.reduceToNat, Nat.reduceMul, Nat.reduceAdd, Nat.reduceLeDiff, Nat.reduceSub, Nat.reduceEqDiff])
    | (refine ap_intro ?_; simp (disch := omega) only [go_sem, wrap_in, cutOff_lt, Hp.put_ne, Int.reduceToNat, Nat.reduceMul, Nat.reduceAdd, Nat.reduceLeDiff, Nat.reduceSub, Nat.reduceEqDiff])
    | (refine And.intro (by first | omega | (simp +contextual; done) | (simp +contextual; intros; omega)) ?_)
    | (refine vcall_raw cb_37 ((insert_edit (i := 0) (f := fun i => [eGEdit (nth all k)].getD i []) hO' (eGEdit_ok _) (by simp <;> omega) (by simp <;> omega)).mono ?_); rintro r H3 ⟨hO3, -⟩)
    | (refine hKr _ _ (next_mk (k + 1, r) ⟨by (try simp only); omega, ?_⟩ (by (try simp only); omega) (by (simp only [go_sem, LLe, Nat.reduceAdd, AV.raw.injEq, Value.int.injEq, Value.slice.injEq, Value.pointer.injEq]; try omega))))
    | (clear hK K))
        all_goals (try omega)
        rw [insAll_succ l all (by omega), hL, ← insOne_at (i := 0) (by omega) (fun j hj => by omega) (fun _ => by omega)]
        simpa only [List.map_append, List.map_take, List.map_drop, List.map_cons, List.map_nil, List.getD_cons_zero] using hO3
      · rw [hll] at *
        repeat' (first
    | refine awp_seq_k fun K hK => ?_
    | (refine awp_region_vcl ?_; simp (disch := omega) only [go_sem, wrap_in, cutOff_lt, Hp.put_ne, Int.reduceToNat, Nat.reduceMul, Nat.reduceAdd, Nat.reduceLeDiff, Nat.reduceSub, Nat.reduceEqDiff])
    | (refine hK _ _ ?_; clear hK K)
    | refine awp_block ?_
    | (refine awp_cond rfl (fun hc => ?_) (fun hc => ?_) <;> (try contradiction) <;> (try simp only [Bool.and_eq_true, Bool.or_eq_true, Bool.and_eq_false_iff, Bool.or_eq_false_iff, decide_eq_true_eq, decide_eq_false_iff_not, Bool.not_eq_true', Bool.not_eq_false', Int.not_lt, Int.not_le] at hc))
    | (refine awp_skip ?_; try simp only [go_sem])
    | (refine awp_exit ?_; try simp only [go_sem, Int.reduceToNat, Nat.reduceMul, Nat.reduceAdd, Nat.reduceLeDiff, Nat.reduceSub, Nat.reduceEqDiff])
    | (refine awp_ret ?_; try simp only [go_sem, Int.reduceToNat, Nat.reduceMul, Nat.reduceAdd, Nat.reduceLeDiff, Nat.reduceSub, Nat.reduceEqDiff])
    | (refine vAlloc_intro (by simp only [go_sem]) fun b hb => ?_; (try simp only [Hp.put_none] at hb); simp (disch := omega) only [go_sem, wrap_in, cutOff_lt, Hp.put_ne, Int.reduceToNat, Nat.reduceMul, Nat.reduceAdd, Nat.reduceLeDiff, Nat.reduceSub, Nat.reduceEqDiff])
    | (refine vBox_intro (by simp only [go_sem]) fun b hb => ?_; (try simp only [Hp.put_none] at hb); simp (disch := omega) only [go_sem, wrap_in, cutOff_lt, Hp.put_ne, Int.reduceToNat, Nat.reduceMul, Nat.reduceAdd, Nat.reduceLeDiff, Nat.reduceSub, Nat.reduceEqDiff])
    | (refine ap_intro ?_; simp (disch := omega) only [go_sem, wrap_in, cutOff_lt, Hp.put_ne, Int.reduceToNat, Nat.reduceMul, Nat.reduceAdd, Nat.reduceLeDiff, Nat.reduceSub, Nat.reduceEqDiff])
    | (refine And.intro (by first | omega | (simp +contextual; done) | (simp +contextual; intros; omega)) ?_)
    | (refine vcall_raw cb_37 ((insert_edit (i := L.length) (f := fun i => [eGEdit (nth all k)].getD i []) hO' (eGEdit_ok _) (by simp <;> omega) (by simp <;> omega)).mono ?_); rintro r H3 ⟨hO3, -⟩)
    | (refine hKr _ _ (next_mk (k + 1, r) ⟨by (try simp only); omega, ?_⟩ (by (try simp only); omega) (by (simp only [go_sem, LLe, Nat.reduceAdd, AV.raw.injEq, Value.int.injEq, Value.slice.injEq, Value.pointer.injEq]; try omega))))
    | (clear hK K))
        all_goals (try omega)
        rw [insAll_succ l all (by omega), hL, ← insOne_at (i := L.length) (by omega) (fun j hj => by have := hno j hj; simpa using this) (fun _ => by omega)]
        simpa only [List.map_append, List.map_take, List.map_drop, List.map_cons, List.map_nil, List.getD_cons_zero] using hO3
  · obtain rfl : k = all.length := by omega
    rw [List.take_length] at hO
    refine pretw (.inr rfl) rfl ?_; simp only [go_sem]
    exact hO.freeze (by simp) (fun i hi => by simp [nth, hi])
end Go.Proofs.Ytfjjdhhppmppnaa

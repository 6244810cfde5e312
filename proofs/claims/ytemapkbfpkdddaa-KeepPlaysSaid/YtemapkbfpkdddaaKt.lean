/- The document's Put of what is kept. No conditions. -/
import Derived.Test.YtemapkbfpkdddaaKs
import Derived.Test.YtemapkbfpkdddaaKeV
set_option linter.all false
namespace Go.Proofs.Ytemapkbfpkdddaa
open Go Go.Fc
abbrev eN (n : Int) : List AV := [.raw (.int .i64 n)]
theorem src_intd {H : Hp} {b : Bool} {l : List Int} {n k : Nat} (hn : n = l.length - k) : Src H 1 (.sl b 1 n fun i => [.raw (.int .i64 (nth l (k + i)))]) ((l.drop k).map fun n : Int => [.raw (.int .i64 n)]) := by
  subst hn
  exact src_sl (by simp) (fun i hi => by simp [nth, show k + i < l.length by omega]) fun i hi => ⟨rfl, rfl⟩
theorem own_less {B C H : Hp} {e : TypeId} {sz : Nat} {a : AV} {css : List (List AV)} (h : Own C H e sz a css) (hs : B.Sub C) : Own B H e sz a css := by
  refine ⟨hs.trans h.1, h.2.1, ?_⟩
  rcases h.2.2 with h3 | ⟨b, c, e1, e2, e3, e4⟩
  · exact .inl h3
  · exact .inr ⟨b, c, e1, e2, hs.none e3, e4⟩
set_option maxHeartbeats 1600000 in
set_option maxRecDepth 10000 in
theorem rput_c {B : Hp} {yb : Nat} {m t x : Int} {L : List GThingI} (hB0 : B yb = none) (hL : RiseK GThingI.at_ L) (hl : L.length ≤ 500) (hm : 1 ≤ m) (hlm : (L.length : Int) ≤ m) : ACalls Try.prog 8 [ptrAt yb, .raw (.int .i64 t), .raw (.int .i64 x)] (B.put yb (rowY m L)) (fun r H' => r = .tup [] ∧ H' = B.put yb (rowY m (putK GThingI.at_ m L ⟨t, x⟩))) := by
  have hy : (B.put yb (rowY m L)) yb = some ⟨38, [.raw (.int .i64 m), ints (L.map GThingI.at_), ints (L.map GThingI.it)], 3⟩ := Hp.put_same _ _ _
  generalize hH : B.put yb (rowY m L) = H at *
  refine acalls_enter Try.func8 rfl (by simp only [Try.ntmps8, List.length_cons, List.length_nil, Nat.reduceAdd, Nat.reduceSub, List.replicate, List.cons_append, List.nil_append]; rfl) ?_
  repeat' (first
    | refine awp_seq_k fun K hK => ?_
    | (refine awp_region_vcl ?_; simp (disch := omega) only [go_sem, wrap_in, cutOff_lt, Hp.put_ne, Int.reduceToNat, Nat.reduceMul, Nat.reduceAdd, Nat.reduceLeDiff, Nat.reduceSub, Nat.reduceEqDiff])
    | (refine awp_region_eff (id := 23) [0, 1, 2, 3, 4, 5, 6, 7, 8, 9, 10, 11, 12, 13, 14, 15, 16, 17, 18, 19, 20, 21, 22] mixed (by decide +kernel) ?_; simp only [List.map_cons, List.map_nil, atO, List.getD_cons_zero, List.getD_cons_succ]; simp (disch := omega) only [go_sem, wrap_in, cutOff_lt, Hp.put_ne, Int.reduceToNat, Nat.reduceMul, Nat.reduceAdd, Nat.reduceLeDiff, Nat.reduceSub, Nat.reduceEqDiff])
    | (refine awp_region_eff (id := 25) [0, 1, 2, 3, 4, 6, 7, 8, 9, 5, 10, 11, 12, 13] mixed (by decide +kernel) ?_; simp only [List.map_cons, List.map_nil, atO, List.getD_cons_zero, List.getD_cons_succ]; simp (disch := omega) only [go_sem, wrap_in, cutOff_lt, Hp.put_ne, Int.reduceToNat, Nat.reduceMul, Nat.reduceAdd, Nat.reduceLeDiff, Nat.reduceSub, Nat.reduceEqDiff])
    | (refine awp_region_eff (id := 26) [0, 1, 2, 3, 4, 6, 7, 8, 9, 5, 10, 11, 12, 13] mixed (by decide +kernel) ?_; simp only [List.map_cons, List.map_nil, atO, List.getD_cons_zero, List.getD_cons_succ]; simp (disch := omega) only [go_sem, wrap_in, cutOff_lt, Hp.put_ne, Int.reduceToNat, Nat.reduceMul, Nat.reduceAdd, Nat.reduceLeDiff, Nat.reduceSub, Nat.reduceEqDiff])
    | (refine hK _ _ ?_; clear hK K)
    | refine awp_block ?_
    | (refine awp_cond rfl (fun hc => ?_) (fun hc => ?_) <;> (try contradiction) <;> (try simp only [Bool.and_eq_true, Bool.or_eq_true, Bool.and_eq_false_iff, Bool.or_eq_false_iff, decide_eq_true_eq, decide_eq_false_iff_not, Bool.not_eq_true', Bool.not_eq_false', Int.not_lt, Int.not_le] at hc))
    | (refine awp_skip ?_; try simp only [go_sem])
    | (refine awp_exit ?_; try simp only [go_sem, Int.reduceToNat, Nat.reduceMul, Nat.reduceAdd, Nat.reduceLeDiff, Nat.reduceSub, Nat.reduceEqDiff])
    | (refine awp_ret ?_; try simp only [go_sem, Int.reduceToNat, Nat.reduceMul, Nat.reduceAdd, Nat.reduceLeDiff, Nat.reduceSub, Nat.reduceEqDiff])
    | (refine vAlloc_intro (by simp only [go_sem]) fun b hb => ?_; (try simp only [Hp.put_none] at hb); simp (disch := omega) only [go_sem, wrap_in, cutOff_lt, Hp.put_ne, Int.reduceToNat, Nat.reduceMul, Nat.reduceAdd, Nat.reduceLeDiff, Nat.reduceSub, Nat.reduceEqDiff])
    | (refine vBox_intro (by simp only [go_sem]) fun b hb => ?_; (try simp only [Hp.put_none] at hb); simp (disch := omega) only [go_sem, wrap_in, cutOff_lt, Hp.put_ne, Int.reduceToNat, Nat.reduceMul, Nat.reduceAdd, Nat.reduceLeDiff, Nat.reduceSub, Nat.reduceEqDiff])
    | (refine ap_intro ?_; simp (disch := omega) only [go_sem, wrap_in, cutOff_lt, Hp.put_ne, Int.reduceToNat, Nat.reduceMul, Nat.reduceAdd, Nat.reduceLeDiff, Nat.reduceSub, Nat.reduceEqDiff])
    | (refine And.intro (by first | omega | (simp +contextual; done) | (simp +contextual; intros; omega)) ?_)
    | (clear hK K))
  have hKo := hK; clear hK
  refine awp_loop_inv (S := Nat × AV × AV) [(6, 4), (14, 59)] (fun s H' => s.1 ≤ L.length ∧ ∃ C, Own C H' 3 1 s.2.2 (((refOut GThingI.at_ L ⟨t, x⟩ s.1).map GThingI.it).map eN) ∧ Own H C 3 1 s.2.1 (((refOut GThingI.at_ L ⟨t, x⟩ s.1).map GThingI.at_).map eN)) (fun s => [(6, s.2.1), (7, s.2.2), (8, .raw (.bool (refDone GThingI.at_ L ⟨t, x⟩ s.1))), (9, .raw (.int .i64 s.1))]) (fun s => L.length - s.1) (0, .sl true 1 0 fun _ => [], .sl true 1 0 fun _ => []) ⟨by (try simp only); omega, H, ?_, ?_⟩ ?_ ?_
  · exact Own.lit (Hp.Sub.refl H) _ _ _
  · exact Own.lit (Hp.Sub.refl H) _ _ _
  · have e : refDone GThingI.at_ L ⟨t, x⟩ 0 = false := by simp [refDone]
    simp only [e]
    (simp only [go_sem, LLe, Nat.reduceAdd, AV.raw.injEq, Value.int.injEq, Value.slice.injEq, Value.pointer.injEq]; try omega)
  rintro ⟨k, a1, a2⟩ H1 ⟨hk, C, hA, hB⟩ Kr hKr
  simp only at hk hA hB
  have hlen := refOut_len (key := GThingI.at_) L ⟨t, x⟩ k
  have hyk := (hB.sub.trans hA.sub) _ _ hy
  by_cases hkl : k < L.length
  · cases hd : refDone GThingI.at_ L ⟨t, x⟩ k
    all_goals
      simp (disch := first | omega | (apply Hp.ne_of <;> assumption) | fail) only [go_sem, hyk, if_le_pos, hd, wrap_in, cutOff_lt, Hp.put_ne, Int.reduceToNat, Nat.reduceMul, Nat.reduceAdd, Nat.reduceLeDiff, Nat.reduceSub, Nat.reduceEqDiff]
      repeat' (first
    | refine awp_seq_k fun K hK => ?_
    | (refine awp_region_vcl ?_; simp (disch := first | omega | (apply Hp.ne_of <;> assumption) | fail) only [go_sem, hyk, if_le_pos, hd, nth_map, List.length_map, wrap_in, cutOff_lt, Hp.put_ne, Int.reduceToNat, Nat.reduceMul, Nat.reduceAdd, Nat.reduceLeDiff, Nat.reduceSub, Nat.reduceEqDiff])
    | (refine awp_region_eff (id := 23) [0, 1, 2, 3, 4, 5, 6, 7, 8, 9, 10, 11, 12, 13, 14, 15, 16, 17, 18, 19, 20, 21, 22] mixed (by decide +kernel) ?_; simp only [List.map_cons, List.map_nil, atO, List.getD_cons_zero, List.getD_cons_succ]; simp (disch := first | omega | (apply Hp.ne_of <;> assumption) | fail) only [go_sem, hyk, if_le_pos, hd, nth_map, List.length_map, wrap_in, cutOff_lt, Hp.put_ne, Int.reduceToNat, Nat.reduceMul, Nat.reduceAdd, Nat.reduceLeDiff, Nat.reduceSub, Nat.reduceEqDiff])
    | (refine awp_region_eff (id := 25) [0, 1, 2, 3, 4, 6, 7, 8, 9, 5, 10, 11, 12, 13] mixed (by decide +kernel) ?_; simp only [List.map_cons, List.map_nil, atO, List.getD_cons_zero, List.getD_cons_succ]; simp (disch := first | omega | (apply Hp.ne_of <;> assumption) | fail) only [go_sem, hyk, if_le_pos, hd, nth_map, List.length_map, wrap_in, cutOff_lt, Hp.put_ne, Int.reduceToNat, Nat.reduceMul, Nat.reduceAdd, Nat.reduceLeDiff, Nat.reduceSub, Nat.reduceEqDiff])
    | (refine awp_region_eff (id := 26) [0, 1, 2, 3, 4, 6, 7, 8, 9, 5, 10, 11, 12, 13] mixed (by decide +kernel) ?_; simp only [List.map_cons, List.map_nil, atO, List.getD_cons_zero, List.getD_cons_succ]; simp (disch := first | omega | (apply Hp.ne_of <;> assumption) | fail) only [go_sem, hyk, if_le_pos, hd, nth_map, List.length_map, wrap_in, cutOff_lt, Hp.put_ne, Int.reduceToNat, Nat.reduceMul, Nat.reduceAdd, Nat.reduceLeDiff, Nat.reduceSub, Nat.reduceEqDiff])
    | (refine hK _ _ ?_; clear hK K)
    | refine awp_block ?_
    | (refine awp_cond rfl (fun hc => ?_) (fun hc => ?_) <;> (try contradiction) <;> (try simp only [Bool.and_eq_true, Bool.or_eq_true, Bool.and_eq_false_iff, Bool.or_eq_false_iff, decide_eq_true_eq, decide_eq_false_iff_not, Bool.not_eq_true', Bool.not_eq_false', Int.not_lt, Int.not_le] at hc))
    | (refine awp_skip ?_; try simp only [go_sem, hyk, if_le_pos, hd, nth_map, List.length_map])
    | (refine awp_exit ?_; try simp only [go_sem, hyk, if_le_pos, hd, nth_map, List.length_map, Int.reduceToNat, Nat.reduceMul, Nat.reduceAdd, Nat.reduceLeDiff, Nat.reduceSub, Nat.reduceEqDiff])
    | (refine awp_ret ?_; try simp only [go_sem, hyk, if_le_pos, hd, nth_map, List.length_map, Int.reduceToNat, Nat.reduceMul, Nat.reduceAdd, Nat.reduceLeDiff, Nat.reduceSub, Nat.reduceEqDiff])
    | (refine vAlloc_intro (by simp only [go_sem, hyk, if_le_pos, hd, nth_map, List.length_map]) fun b hb => ?_; (try simp only [Hp.put_none] at hb); simp (disch := first | omega | (apply Hp.ne_of <;> assumption) | fail) only [go_sem, hyk, if_le_pos, hd, nth_map, List.length_map, wrap_in, cutOff_lt, Hp.put_ne, Int.reduceToNat, Nat.reduceMul, Nat.reduceAdd, Nat.reduceLeDiff, Nat.reduceSub, Nat.reduceEqDiff])
    | (refine vBox_intro (by simp only [go_sem, hyk, if_le_pos, hd, nth_map, List.length_map]) fun b hb => ?_; (try simp only [Hp.put_none] at hb); simp (disch := first | omega | (apply Hp.ne_of <;> assumption) | fail) only [go_sem, hyk, if_le_pos, hd, nth_map, List.length_map, wrap_in, cutOff_lt, Hp.put_ne, Int.reduceToNat, Nat.reduceMul, Nat.reduceAdd, Nat.reduceLeDiff, Nat.reduceSub, Nat.reduceEqDiff])
    | (refine ap_intro ?_; simp (disch := first | omega | (apply Hp.ne_of <;> assumption) | fail) only [go_sem, hyk, if_le_pos, hd, nth_map, List.length_map, wrap_in, cutOff_lt, Hp.put_ne, Int.reduceToNat, Nat.reduceMul, Nat.reduceAdd, Nat.reduceLeDiff, Nat.reduceSub, Nat.reduceEqDiff])
    | (refine And.intro (by first | omega | (simp +contextual; done) | (simp +contextual; intros; omega)) ?_)
    | (obtain ⟨hA', hB'⟩ := own_swap hA hB; clear hA hB hyk; refine append_one Try.underlying35 sz_3 (by rw [ze_3]; rfl) by_3 hA' rfl rfl (by simp; omega) (by simp; omega) ?_; intro a' H2 hA _; have hB := hB'; clear hA' hB'; have hyk := (hB.sub.trans hA.sub) _ _ hy; simp (disch := first | omega | (apply Hp.ne_of <;> assumption) | fail) only [go_sem, hyk, if_le_pos, hd, nth_map, List.length_map, hyk, if_le_pos, nth_map, List.length_map, wrap_in, cutOff_lt, Hp.put_ne, Int.reduceToNat, Nat.reduceMul, Nat.reduceAdd, Nat.reduceLeDiff, Nat.reduceSub, Nat.reduceEqDiff])
    | (refine hKo _ _ ?_)
    | (clear hK K))
    · have hf := refOut_first (key := GThingI.at_) (e := ⟨t, x⟩) hkl (by assumption) hd
      obtain ⟨h1, h2⟩ := refOut_put (key := GThingI.at_) (e := ⟨t, x⟩) hkl hf
      rw [if_neg hc] at h2
      refine hKr _ _ (next_mk (k + 1, _, _) ⟨by (try simp only); omega, _, by (try simp only); rw [h2]; simpa using hA, by (try simp only); rw [h2]; simpa using hB⟩ (by (try simp only); omega) (by simp only [h1]; (simp only [go_sem, LLe, Nat.reduceAdd, AV.raw.injEq, Value.int.injEq, Value.slice.injEq, Value.pointer.injEq]; try omega)))
    · have hf := refOut_first (key := GThingI.at_) (e := ⟨t, x⟩) hkl (by assumption) hd
      obtain ⟨h1, h2⟩ := refOut_put (key := GThingI.at_) (e := ⟨t, x⟩) hkl hf
      rw [if_pos hc] at h2
      refine hKr _ _ (next_mk (k + 1, _, _) ⟨by (try simp only); omega, _, by (try simp only); rw [h2]; simpa using hA, by (try simp only); rw [h2]; simpa using hB⟩ (by (try simp only); omega) (by simp only [h1]; (simp only [go_sem, LLe, Nat.reduceAdd, AV.raw.injEq, Value.int.injEq, Value.slice.injEq, Value.pointer.injEq]; try omega)))
    · obtain ⟨h0, h1, h2⟩ := refOut_ahead (key := GThingI.at_) (e := ⟨t, x⟩) hkl (by assumption) hL
      refine hKr _ _ (next_mk (k + 1, _, _) ⟨by (try simp only); omega, _, by (try simp only); rw [h2]; simpa using hA, by (try simp only); rw [h2]; simpa using hB⟩ (by (try simp only); omega) (by simp only [h1]; (simp only [go_sem, LLe, Nat.reduceAdd, AV.raw.injEq, Value.int.injEq, Value.slice.injEq, Value.pointer.injEq]; try omega)))
    · exfalso; omega
    all_goals (try (exfalso; omega))
    · obtain ⟨h0, h1, h2⟩ := refOut_behind (key := GThingI.at_) (e := ⟨t, x⟩) hkl hd hL
      refine hKr _ _ (next_mk (k + 1, _, _) ⟨by (try simp only); omega, _, by (try simp only); rw [h2]; simpa using hA, by (try simp only); rw [h2]; simpa using hB⟩ (by (try simp only); omega) (by simp only [h1]; (simp only [go_sem, LLe, Nat.reduceAdd, AV.raw.injEq, Value.int.injEq, Value.slice.injEq, Value.pointer.injEq]; try omega)))
    · obtain ⟨h0, h1, h2⟩ := refOut_behind (key := GThingI.at_) (e := ⟨t, x⟩) hkl hd hL
      have h0' : t < (nth L k).at_ := h0
      exfalso; omega
  · have hke : k = L.length := by omega
    have hen := refOut_end (key := GThingI.at_) (e := ⟨t, x⟩) hL
    have hcut : cutK GThingI.at_ m (if hasK GThingI.at_ L t then L.set (fnd GThingI.at_ L t) ⟨t, x⟩ else insK GThingI.at_ L ⟨t, x⟩) = putK GThingI.at_ m L ⟨t, x⟩ := by
      unfold putK
      split
      · rw [cutK, if_neg (by rw [List.length_set]; omega)]
      · rfl
    have hMl : (if hasK GThingI.at_ L t then L.set (fnd GThingI.at_ L t) ⟨t, x⟩ else insK GThingI.at_ L ⟨t, x⟩).length ≤ L.length + 1 := by
      split
      · rw [List.length_set]; omega
      · rw [insK_len]; exact Nat.le_refl _
    have hen : (if refDone GThingI.at_ L ⟨t, x⟩ L.length = true then refOut GThingI.at_ L ⟨t, x⟩ L.length else refOut GThingI.at_ L ⟨t, x⟩ L.length ++ [⟨t, x⟩]) = (if hasK GThingI.at_ L t = true then L.set (fnd GThingI.at_ L t) ⟨t, x⟩ else insK GThingI.at_ L ⟨t, x⟩) := hen
    generalize (if hasK GThingI.at_ L t = true then L.set (fnd GThingI.at_ L t) ⟨t, x⟩ else insK GThingI.at_ L ⟨t, x⟩) = M at hen hcut hMl
    have hrow : (⟨38, [.raw (.int .i64 m), .sl false 1 M.length fun i => eN (nth (M.map GThingI.at_) i), .sl false 1 M.length fun i => eN (nth (M.map GThingI.it) i)], 3⟩ : Row) = rowY m M := by simp only [rowY, ints, slOf, List.length_map]
    cases hd : refDone GThingI.at_ L ⟨t, x⟩ L.length
    all_goals
      rw [hd] at hen
      rw [hke] at hA hB hlen
      simp (disch := first | omega | (apply Hp.ne_of <;> assumption) | fail) only [go_sem, hyk, if_le_pos, hd, hke, wrap_in, cutOff_lt, Hp.put_ne, Int.reduceToNat, Nat.reduceMul, Nat.reduceAdd, Nat.reduceLeDiff, Nat.reduceSub, Nat.reduceEqDiff]
      repeat' (first
    | refine awp_seq_k fun K hK => ?_
    | (refine awp_region_vcl ?_; simp (disch := first | omega | (apply Hp.ne_of <;> assumption) | fail) only [go_sem, hyk, if_le_pos, hd, nth_map, List.length_map, wrap_in, cutOff_lt, Hp.put_ne, Int.reduceToNat, Nat.reduceMul, Nat.reduceAdd, Nat.reduceLeDiff, Nat.reduceSub, Nat.reduceEqDiff])
    | (refine awp_region_eff (id := 23) [0, 1, 2, 3, 4, 5, 6, 7, 8, 9, 10, 11, 12, 13, 14, 15, 16, 17, 18, 19, 20, 21, 22] mixed (by decide +kernel) ?_; simp only [List.map_cons, List.map_nil, atO, List.getD_cons_zero, List.getD_cons_succ]; simp (disch := first | omega | (apply Hp.ne_of <;> assumption) | fail) only [go_sem, hyk, if_le_pos, hd, nth_map, List.length_map, wrap_in, cutOff_lt, Hp.put_ne, Int.reduceToNat, Nat.reduceMul, Nat.reduceAdd, Nat.reduceLeDiff, Nat.reduceSub, Nat.reduceEqDiff])
    | (refine awp_region_eff (id := 25) [0, 1, 2, 3, 4, 6, 7, 8, 9, 5, 10, 11, 12, 13] mixed (by decide +kernel) ?_; simp only [List.map_cons, List.map_nil, atO, List.getD_cons_zero, List.getD_cons_succ]; simp (disch := first | omega | (apply Hp.ne_of <;> assumption) | fail) only [go_sem, hyk, if_le_pos, hd, nth_map, List.length_map, wrap_in, cutOff_lt, Hp.put_ne, Int.reduceToNat, Nat.reduceMul, Nat.reduceAdd, Nat.reduceLeDiff, Nat.reduceSub, Nat.reduceEqDiff])
    | (refine awp_region_eff (id := 26) [0, 1, 2, 3, 4, 6, 7, 8, 9, 5, 10, 11, 12, 13] mixed (by decide +kernel) ?_; simp only [List.map_cons, List.map_nil, atO, List.getD_cons_zero, List.getD_cons_succ]; simp (disch := first | omega | (apply Hp.ne_of <;> assumption) | fail) only [go_sem, hyk, if_le_pos, hd, nth_map, List.length_map, wrap_in, cutOff_lt, Hp.put_ne, Int.reduceToNat, Nat.reduceMul, Nat.reduceAdd, Nat.reduceLeDiff, Nat.reduceSub, Nat.reduceEqDiff])
    | (refine hK _ _ ?_; clear hK K)
    | refine awp_block ?_
    | (refine awp_cond rfl (fun hc => ?_) (fun hc => ?_) <;> (try contradiction) <;> (try simp only [Bool.and_eq_true, Bool.or_eq_true, Bool.and_eq_false_iff, Bool.or_eq_false_iff, decide_eq_true_eq, decide_eq_false_iff_not, Bool.not_eq_true', Bool.not_eq_false', Int.not_lt, Int.not_le] at hc))
    | (refine awp_skip ?_; try simp only [go_sem, hyk, if_le_pos, hd, nth_map, List.length_map])
    | (refine awp_exit ?_; try simp only [go_sem, hyk, if_le_pos, hd, nth_map, List.length_map, Int.reduceToNat, Nat.reduceMul, Nat.reduceAdd, Nat.reduceLeDiff, Nat.reduceSub, Nat.reduceEqDiff])
    | (refine awp_ret ?_; try simp only [go_sem, hyk, if_le_pos, hd, nth_map, List.length_map, Int.reduceToNat, Nat.reduceMul, Nat.reduceAdd, Nat.reduceLeDiff, Nat.reduceSub, Nat.reduceEqDiff])
    | (refine vAlloc_intro (by simp only [go_sem, hyk, if_le_pos, hd, nth_map, List.length_map]) fun b hb => ?_; (try simp only [Hp.put_none] at hb); simp (disch := first | omega | (apply Hp.ne_of <;> assumption) | fail) only [go_sem, hyk, if_le_pos, hd, nth_map, List.length_map, wrap_in, cutOff_lt, Hp.put_ne, Int.reduceToNat, Nat.reduceMul, Nat.reduceAdd, Nat.reduceLeDiff, Nat.reduceSub, Nat.reduceEqDiff])
    | (refine vBox_intro (by simp only [go_sem, hyk, if_le_pos, hd, nth_map, List.length_map]) fun b hb => ?_; (try simp only [Hp.put_none] at hb); simp (disch := first | omega | (apply Hp.ne_of <;> assumption) | fail) only [go_sem, hyk, if_le_pos, hd, nth_map, List.length_map, wrap_in, cutOff_lt, Hp.put_ne, Int.reduceToNat, Nat.reduceMul, Nat.reduceAdd, Nat.reduceLeDiff, Nat.reduceSub, Nat.reduceEqDiff])
    | (refine ap_intro ?_; simp (disch := first | omega | (apply Hp.ne_of <;> assumption) | fail) only [go_sem, hyk, if_le_pos, hd, nth_map, List.length_map, wrap_in, cutOff_lt, Hp.put_ne, Int.reduceToNat, Nat.reduceMul, Nat.reduceAdd, Nat.reduceLeDiff, Nat.reduceSub, Nat.reduceEqDiff])
    | (refine And.intro (by first | omega | (simp +contextual; done) | (simp +contextual; intros; omega)) ?_)
    | (exfalso; omega)
    | (obtain ⟨hA', hB'⟩ := own_swap hA hB; clear hA hB hyk; refine append_one Try.underlying35 sz_3 (by rw [ze_3]; rfl) by_3 hA' rfl rfl (by simp; omega) (by simp; omega) ?_; intro a' H2 hA _; have hB := hB'; clear hA' hB'; have hyk := (hB.sub.trans hA.sub) _ _ hy; simp (disch := first | omega | (apply Hp.ne_of <;> assumption) | fail) only [go_sem, hyk, if_le_pos, hd, nth_map, List.length_map, hyk, if_le_pos, nth_map, List.length_map, wrap_in, cutOff_lt, Hp.put_ne, Int.reduceToNat, Nat.reduceMul, Nat.reduceAdd, Nat.reduceLeDiff, Nat.reduceSub, Nat.reduceEqDiff])
    | (refine hKo _ _ ?_; refine awp_seq_k fun Kq hKq => ?_)
    | (clear hK K))
    all_goals
      first
      | (have hen : refOut GThingI.at_ L ⟨t, x⟩ L.length ++ [⟨t, x⟩] = M := hen
         have e1 : ((refOut GThingI.at_ L ⟨t, x⟩ L.length).map GThingI.it).map eN ++ [[.raw (.int .i64 x)]] = (M.map GThingI.it).map eN := by rw [← hen]; simp
         have e2 : ((refOut GThingI.at_ L ⟨t, x⟩ L.length).map GThingI.at_).map eN ++ [[.raw (.int .i64 t)]] = (M.map GThingI.at_).map eN := by rw [← hen]; simp
         rw [e1] at hA
         rw [e2] at hB)
      | (have hen : refOut GThingI.at_ L ⟨t, x⟩ L.length = M := hen
         rw [hen] at hA hB)
    all_goals
      refine hKq _ _ ?_
      refine awp_weak (fle_freeze (i := 7) rfl hA.freeze_list) ?_
      refine awp_weak (fle_freeze (i := 6) rfl hB.freeze_list) ?_
      clear hA hB hyk hlen hc hen hd
      simp (disch := first | omega | (apply Hp.ne_of <;> assumption) | fail) only [go_sem, hy, if_le_pos, wrap_in, cutOff_lt, Hp.put_ne, Int.reduceToNat, Nat.reduceMul, Nat.reduceAdd, Nat.reduceLeDiff, Nat.reduceSub, Nat.reduceEqDiff]
      repeat' (first
    | refine awp_seq_k fun K hK => ?_
    | (refine awp_region_vcl ?_; simp (disch := first | omega | (apply Hp.ne_of <;> assumption) | fail) only [go_sem, hy, if_le_pos, List.length_map, wrap_in, cutOff_lt, Hp.put_ne, Int.reduceToNat, Nat.reduceMul, Nat.reduceAdd, Nat.reduceLeDiff, Nat.reduceSub, Nat.reduceEqDiff])
    | (refine awp_region_eff (id := 23) [0, 1, 2, 3, 4, 5, 6, 7, 8, 9, 10, 11, 12, 13, 14, 15, 16, 17, 18, 19, 20, 21, 22] mixed (by decide +kernel) ?_; simp only [List.map_cons, List.map_nil, atO, List.getD_cons_zero, List.getD_cons_succ]; simp (disch := first | omega | (apply Hp.ne_of <;> assumption) | fail) only [go_sem, hy, if_le_pos, List.length_map, wrap_in, cutOff_lt, Hp.put_ne, Int.reduceToNat, Nat.reduceMul, Nat.reduceAdd, Nat.reduceLeDiff, Nat.reduceSub, Nat.reduceEqDiff])
    | (refine awp_region_eff (id := 25) [0, 1, 2, 3, 4, 6, 7, 8, 9, 5, 10, 11, 12, 13] mixed (by decide +kernel) ?_; simp only [List.map_cons, List.map_nil, atO, List.getD_cons_zero, List.getD_cons_succ]; simp (disch := first | omega | (apply Hp.ne_of <;> assumption) | fail) only [go_sem, hy, if_le_pos, List.length_map, wrap_in, cutOff_lt, Hp.put_ne, Int.reduceToNat, Nat.reduceMul, Nat.reduceAdd, Nat.reduceLeDiff, Nat.reduceSub, Nat.reduceEqDiff])
    | (refine awp_region_eff (id := 26) [0, 1, 2, 3, 4, 6, 7, 8, 9, 5, 10, 11, 12, 13] mixed (by decide +kernel) ?_; simp only [List.map_cons, List.map_nil, atO, List.getD_cons_zero, List.getD_cons_succ]; simp (disch := first | omega | (apply Hp.ne_of <;> assumption) | fail) only [go_sem, hy, if_le_pos, List.length_map, wrap_in, cutOff_lt, Hp.put_ne, Int.reduceToNat, Nat.reduceMul, Nat.reduceAdd, Nat.reduceLeDiff, Nat.reduceSub, Nat.reduceEqDiff])
    | (refine hK _ _ ?_; clear hK K)
    | refine awp_block ?_
    | (refine awp_cond rfl (fun hc => ?_) (fun hc => ?_) <;> (try contradiction) <;> (try simp only [Bool.and_eq_true, Bool.or_eq_true, Bool.and_eq_false_iff, Bool.or_eq_false_iff, decide_eq_true_eq, decide_eq_false_iff_not, Bool.not_eq_true', Bool.not_eq_false', Int.not_lt, Int.not_le] at hc))
    | (refine awp_skip ?_; try simp only [go_sem, hy, if_le_pos, List.length_map])
    | (refine awp_exit ?_; try simp only [go_sem, hy, if_le_pos, List.length_map, Int.reduceToNat, Nat.reduceMul, Nat.reduceAdd, Nat.reduceLeDiff, Nat.reduceSub, Nat.reduceEqDiff])
    | (refine awp_ret ?_; try simp only [go_sem, hy, if_le_pos, List.length_map, Int.reduceToNat, Nat.reduceMul, Nat.reduceAdd, Nat.reduceLeDiff, Nat.reduceSub, Nat.reduceEqDiff])
    | (refine vAlloc_intro (by simp only [go_sem, hy, if_le_pos, List.length_map]) fun b hb => ?_; (try simp only [Hp.put_none] at hb); simp (disch := first | omega | (apply Hp.ne_of <;> assumption) | fail) only [go_sem, hy, if_le_pos, List.length_map, wrap_in, cutOff_lt, Hp.put_ne, Int.reduceToNat, Nat.reduceMul, Nat.reduceAdd, Nat.reduceLeDiff, Nat.reduceSub, Nat.reduceEqDiff])
    | (refine vBox_intro (by simp only [go_sem, hy, if_le_pos, List.length_map]) fun b hb => ?_; (try simp only [Hp.put_none] at hb); simp (disch := first | omega | (apply Hp.ne_of <;> assumption) | fail) only [go_sem, hy, if_le_pos, List.length_map, wrap_in, cutOff_lt, Hp.put_ne, Int.reduceToNat, Nat.reduceMul, Nat.reduceAdd, Nat.reduceLeDiff, Nat.reduceSub, Nat.reduceEqDiff])
    | (refine ap_intro ?_; simp (disch := first | omega | (apply Hp.ne_of <;> assumption) | fail) only [go_sem, hy, if_le_pos, List.length_map, wrap_in, cutOff_lt, Hp.put_ne, Int.reduceToNat, Nat.reduceMul, Nat.reduceAdd, Nat.reduceLeDiff, Nat.reduceSub, Nat.reduceEqDiff])
    | (refine And.intro (by first | omega | (simp +contextual; done) | (simp +contextual; intros; omega)) ?_)
    | (clear hK K))
      · refine ret_mk (.inr rfl) rfl (.tup []) _ (RLe.refl _ _) ⟨rfl, ?_⟩
        rw [hrow, ← hH, Hp.put_put, ← hcut, cutK, if_neg (by omega)]
      · rw [hrow]
        have hKo := hK; clear hK
        have hn2 : nearTo GThingI.at_ M 2 = 1 := by simp [nearTo]
        have hnk := nearK_le (key := GThingI.at_) M (by omega)
        have hyM : (H.put yb (rowY m M)) yb = some (rowY m M) := Hp.put_same _ _ _
        refine awp_loop_inv (S := Nat) [(10, 2), (98, 30)] (fun k H' => H' = H.put yb (rowY m M) ∧ 2 ≤ k ∧ k ≤ M.length) (fun k => [(10, .raw (.int .i64 (nearTo GThingI.at_ M k))), (11, .raw (.int .i64 k))]) (fun k => M.length - k) 2 ⟨rfl, by omega, by omega⟩ (by simp only [hn2]; (simp only [go_sem, LLe, Nat.reduceAdd, AV.raw.injEq, Value.int.injEq, Value.slice.injEq, Value.pointer.injEq]; try omega)) ?_
        rintro k H' ⟨rfl, hk2, hk3⟩ Kr hKr
        have hnl := nearTo_le (key := GThingI.at_) M k
        simp (disch := omega) only [go_sem, wrap_in, cutOff_lt, Hp.put_ne, Int.reduceToNat, Nat.reduceMul, Nat.reduceAdd, Nat.reduceLeDiff, Nat.reduceSub, Nat.reduceEqDiff]
        repeat' (first
    | refine awp_seq_k fun K hK => ?_
    | (refine awp_region_vcl ?_; simp (disch := first | omega | (apply Hp.ne_of <;> assumption) | fail) only [go_sem, nth_map, List.length_map, wrap_in, cutOff_lt, Hp.put_ne, Int.reduceToNat, Nat.reduceMul, Nat.reduceAdd, Nat.reduceLeDiff, Nat.reduceSub, Nat.reduceEqDiff])
    | (refine awp_region_eff (id := 23) [0, 1, 2, 3, 4, 5, 6, 7, 8, 9, 10, 11, 12, 13, 14, 15, 16, 17, 18, 19, 20, 21, 22] mixed (by decide +kernel) ?_; simp only [List.map_cons, List.map_nil, atO, List.getD_cons_zero, List.getD_cons_succ]; simp (disch := first | omega | (apply Hp.ne_of <;> assumption) | fail) only [go_sem, nth_map, List.length_map, wrap_in, cutOff_lt, Hp.put_ne, Int.reduceToNat, Nat.reduceMul, Nat.reduceAdd, Nat.reduceLeDiff, Nat.reduceSub, Nat.reduceEqDiff])
    | (refine awp_region_eff (id := 25) [0, 1, 2, 3, 4, 6, 7, 8, 9, 5, 10, 11, 12, 13] mixed (by decide +kernel) ?_; simp only [List.map_cons, List.map_nil, atO, List.getD_cons_zero, List.getD_cons_succ]; simp (disch := first | omega | (apply Hp.ne_of <;> assumption) | fail) only [go_sem, nth_map, List.length_map, wrap_in, cutOff_lt, Hp.put_ne, Int.reduceToNat, Nat.reduceMul, Nat.reduceAdd, Nat.reduceLeDiff, Nat.reduceSub, Nat.reduceEqDiff])
    | (refine awp_region_eff (id := 26) [0, 1, 2, 3, 4, 6, 7, 8, 9, 5, 10, 11, 12, 13] mixed (by decide +kernel) ?_; simp only [List.map_cons, List.map_nil, atO, List.getD_cons_zero, List.getD_cons_succ]; simp (disch := first | omega | (apply Hp.ne_of <;> assumption) | fail) only [go_sem, nth_map, List.length_map, wrap_in, cutOff_lt, Hp.put_ne, Int.reduceToNat, Nat.reduceMul, Nat.reduceAdd, Nat.reduceLeDiff, Nat.reduceSub, Nat.reduceEqDiff])
    | (refine hK _ _ ?_; clear hK K)
    | refine awp_block ?_
    | (refine awp_cond rfl (fun hc => ?_) (fun hc => ?_) <;> (try contradiction) <;> (try simp only [Bool.and_eq_true, Bool.or_eq_true, Bool.and_eq_false_iff, Bool.or_eq_false_iff, decide_eq_true_eq, decide_eq_false_iff_not, Bool.not_eq_true', Bool.not_eq_false', Int.not_lt, Int.not_le] at hc))
    | (refine awp_skip ?_; try simp only [go_sem, nth_map, List.length_map])
    | (refine awp_exit ?_; try simp only [go_sem, nth_map, List.length_map, Int.reduceToNat, Nat.reduceMul, Nat.reduceAdd, Nat.reduceLeDiff, Nat.reduceSub, Nat.reduceEqDiff])
    | (refine awp_ret ?_; try simp only [go_sem, nth_map, List.length_map, Int.reduceToNat, Nat.reduceMul, Nat.reduceAdd, Nat.reduceLeDiff, Nat.reduceSub, Nat.reduceEqDiff])
    | (refine vAlloc_intro (by simp only [go_sem, nth_map, List.length_map]) fun b hb => ?_; (try simp only [Hp.put_none] at hb); simp (disch := first | omega | (apply Hp.ne_of <;> assumption) | fail) only [go_sem, nth_map, List.length_map, wrap_in, cutOff_lt, Hp.put_ne, Int.reduceToNat, Nat.reduceMul, Nat.reduceAdd, Nat.reduceLeDiff, Nat.reduceSub, Nat.reduceEqDiff])
    | (refine vBox_intro (by simp only [go_sem, nth_map, List.length_map]) fun b hb => ?_; (try simp only [Hp.put_none] at hb); simp (disch := first | omega | (apply Hp.ne_of <;> assumption) | fail) only [go_sem, nth_map, List.length_map, wrap_in, cutOff_lt, Hp.put_ne, Int.reduceToNat, Nat.reduceMul, Nat.reduceAdd, Nat.reduceLeDiff, Nat.reduceSub, Nat.reduceEqDiff])
    | (refine ap_intro ?_; simp (disch := first | omega | (apply Hp.ne_of <;> assumption) | fail) only [go_sem, nth_map, List.length_map, wrap_in, cutOff_lt, Hp.put_ne, Int.reduceToNat, Nat.reduceMul, Nat.reduceAdd, Nat.reduceLeDiff, Nat.reduceSub, Nat.reduceEqDiff])
    | (refine And.intro (by first | omega | (simp +contextual; done) | (simp +contextual; intros; omega)) ?_)
    | (refine hKo _ _ ?_)
    | (clear hK K))
        · have hg : gapK GThingI.at_ M k < gapK GThingI.at_ M (nearTo GThingI.at_ M k) := by unfold gapK; rw [← gap_ref, ← gap_ref]; exact hc
          refine hKr _ _ (next_mk (k + 1) ⟨rfl, by omega, by omega⟩ (by (try simp only); omega) (by rw [nearTo, if_pos ⟨hk2, hg⟩]; (simp only [go_sem, LLe, Nat.reduceAdd, AV.raw.injEq, Value.int.injEq, Value.slice.injEq, Value.pointer.injEq]; try omega)))
        · have hg : gapK GThingI.at_ M (nearTo GThingI.at_ M k) ≤ gapK GThingI.at_ M k := by unfold gapK; rw [← gap_ref, ← gap_ref]; exact hc
          refine hKr _ _ (next_mk (k + 1) ⟨rfl, by omega, by omega⟩ (by (try simp only); omega) (by rw [nearTo, if_neg (by omega)]; (simp only [go_sem, LLe, Nat.reduceAdd, AV.raw.injEq, Value.int.injEq, Value.slice.injEq, Value.pointer.injEq]; try omega)))
        · obtain rfl : k = M.length := by omega
          have hnt : nearTo GThingI.at_ M M.length = nearK GThingI.at_ M := rfl
          rw [hnt]
          generalize hb : nearK GThingI.at_ M = b at *
          have hpM : putK GThingI.at_ m L ⟨t, x⟩ = M.take b ++ M.drop (b + 1) := by rw [← hcut, cutK, if_pos (by omega), hb]
          have hHM : H.put yb (rowY m M) = B.put yb (rowY m M) := by rw [← hH, Hp.put_put]
          rw [hHM] at hyM ⊢
          have hBs : B.Sub (B.put yb (rowY m M)) := put_own (Hp.Sub.refl B) hB0 _
          generalize hH1 : B.put yb (rowY m M) = H1' at *
          have g1 : ∀ f : GThingI → Int, ((M.map f).take b).map eN ++ ((M.map f).drop (b + 1)).map eN = ((M.take b ++ M.drop (b + 1)).map f).map eN := fun f => by simp [List.map_take, List.map_drop]
          have g2 : ∀ f : GThingI → Int, (((M.take b ++ M.drop (b + 1)).map f).map eN).length = M.length - 1 := fun f => by simp; omega
          refine append_own (e := 3) (sz := 1) (ys := ((M.map GThingI.at_).take b).map eN) un_35 sz_3 (by rw [ze_3]; rfl) (Own.lit (Hp.Sub.refl H1') _ _ _) (src_ints (by omega) (by simp; omega)) (by rw [by_3]; simp; omega) (by simp; omega) ?_
          rintro a3 H3 hO3 _
          rw [List.nil_append] at hO3
          simp (disch := first | omega | (apply Hp.ne_of <;> assumption) | fail) only [go_sem, hyM, if_le_pos, wrap_in, cutOff_lt, Hp.put_ne, Int.reduceToNat, Nat.reduceMul, Nat.reduceAdd, Nat.reduceLeDiff, Nat.reduceSub, Nat.reduceEqDiff]
          repeat' (first
    | refine awp_seq_k fun K hK => ?_
    | (refine awp_region_vcl ?_; simp (disch := first | omega | (apply Hp.ne_of <;> assumption) | fail) only [go_sem, hyM, if_le_pos, List.length_map, wrap_in, cutOff_lt, Hp.put_ne, Int.reduceToNat, Nat.reduceMul, Nat.reduceAdd, Nat.reduceLeDiff, Nat.reduceSub, Nat.reduceEqDiff])
    | (refine awp_region_eff (id := 23) [0, 1, 2, 3, 4, 5, 6, 7, 8, 9, 10, 11, 12, 13, 14, 15, 16, 17, 18, 19, 20, 21, 22] mixed (by decide +kernel) ?_; simp only [List.map_cons, List.map_nil, atO, List.getD_cons_zero, List.getD_cons_succ]; simp (disch := first | omega | (apply Hp.ne_of <;> assumption) | fail) only [go_sem, hyM, if_le_pos, List.length_map, wrap_in, cutOff_lt, Hp.put_ne, Int.reduceToNat, Nat.reduceMul, Nat.reduceAdd, Nat.reduceLeDiff, Nat.reduceSub, Nat.reduceEqDiff])
    | (refine awp_region_eff (id := 25) [0, 1, 2, 3, 4, 6, 7, 8, 9, 5, 10, 11, 12, 13] mixed (by decide +kernel) ?_; simp only [List.map_cons, List.map_nil, atO, List.getD_cons_zero, List.getD_cons_succ]; simp (disch := first | omega | (apply Hp.ne_of <;> assumption) | fail) only [go_sem, hyM, if_le_pos, List.length_map, wrap_in, cutOff_lt, Hp.put_ne, Int.reduceToNat, Nat.reduceMul, Nat.reduceAdd, Nat.reduceLeDiff, Nat.reduceSub, Nat.reduceEqDiff])
    | (refine awp_region_eff (id := 26) [0, 1, 2, 3, 4, 6, 7, 8, 9, 5, 10, 11, 12, 13] mixed (by decide +kernel) ?_; simp only [List.map_cons, List.map_nil, atO, List.getD_cons_zero, List.getD_cons_succ]; simp (disch := first | omega | (apply Hp.ne_of <;> assumption) | fail) only [go_sem, hyM, if_le_pos, List.length_map, wrap_in, cutOff_lt, Hp.put_ne, Int.reduceToNat, Nat.reduceMul, Nat.reduceAdd, Nat.reduceLeDiff, Nat.reduceSub, Nat.reduceEqDiff])
    | (refine hK _ _ ?_; clear hK K)
    | refine awp_block ?_
    | (refine awp_cond rfl (fun hc => ?_) (fun hc => ?_) <;> (try contradiction) <;> (try simp only [Bool.and_eq_true, Bool.or_eq_true, Bool.and_eq_false_iff, Bool.or_eq_false_iff, decide_eq_true_eq, decide_eq_false_iff_not, Bool.not_eq_true', Bool.not_eq_false', Int.not_lt, Int.not_le] at hc))
    | (refine awp_skip ?_; try simp only [go_sem, hyM, if_le_pos, List.length_map])
    | (refine awp_exit ?_; try simp only [go_sem, hyM, if_le_pos, List.length_map, Int.reduceToNat, Nat.reduceMul, Nat.reduceAdd, Nat.reduceLeDiff, Nat.reduceSub, Nat.reduceEqDiff])
    | (refine awp_ret ?_; try simp only [go_sem, hyM, if_le_pos, List.length_map, Int.reduceToNat, Nat.reduceMul, Nat.reduceAdd, Nat.reduceLeDiff, Nat.reduceSub, Nat.reduceEqDiff])
    | (refine vAlloc_intro (by simp only [go_sem, hyM, if_le_pos, List.length_map]) fun b hb => ?_; (try simp only [Hp.put_none] at hb); simp (disch := first | omega | (apply Hp.ne_of <;> assumption) | fail) only [go_sem, hyM, if_le_pos, List.length_map, wrap_in, cutOff_lt, Hp.put_ne, Int.reduceToNat, Nat.reduceMul, Nat.reduceAdd, Nat.reduceLeDiff, Nat.reduceSub, Nat.reduceEqDiff])
    | (refine vBox_intro (by simp only [go_sem, hyM, if_le_pos, List.length_map]) fun b hb => ?_; (try simp only [Hp.put_none] at hb); simp (disch := first | omega | (apply Hp.ne_of <;> assumption) | fail) only [go_sem, hyM, if_le_pos, List.length_map, wrap_in, cutOff_lt, Hp.put_ne, Int.reduceToNat, Nat.reduceMul, Nat.reduceAdd, Nat.reduceLeDiff, Nat.reduceSub, Nat.reduceEqDiff])
    | (refine ap_intro ?_; simp (disch := first | omega | (apply Hp.ne_of <;> assumption) | fail) only [go_sem, hyM, if_le_pos, List.length_map, wrap_in, cutOff_lt, Hp.put_ne, Int.reduceToNat, Nat.reduceMul, Nat.reduceAdd, Nat.reduceLeDiff, Nat.reduceSub, Nat.reduceEqDiff])
    | (refine And.intro (by first | omega | (simp +contextual; done) | (simp +contextual; intros; omega)) ?_)
    | (clear hK K))
          refine append_own (e := 3) (sz := 1) (ys := ((M.map GThingI.at_).drop (b + 1)).map eN) un_35 sz_3 (by rw [ze_3]; rfl) hO3 (src_intd (by simp)) (by rw [by_3]; simp; omega) (by simp; omega) ?_
          rintro a4 H4 hO4 _
          rw [g1] at hO4
          have hy4 : H4 yb = some ⟨38, [.raw (.int .i64 m), ints (M.map GThingI.at_), ints (M.map GThingI.it)], 3⟩ := hO4.1 _ _ hyM
          obtain ⟨v0, rfl⟩ := hO4.raw (fun e => by have := congrArg List.length e; rw [g2] at this; simp at this; omega)
          rcases hO4.form with ⟨h0, _⟩ | ⟨sb, c, rfl, hc2, hsB, hsb⟩
          · have := congrArg List.length h0; rw [g2] at this; simp at this; omega
          simp only [List.length_map] at hO4
          simp (disch := first | omega | (apply Hp.ne_of <;> assumption) | fail) only [go_sem, hy4, if_le_pos, wrap_in, cutOff_lt, Hp.put_ne, Int.reduceToNat, Nat.reduceMul, Nat.reduceAdd, Nat.reduceLeDiff, Nat.reduceSub, Nat.reduceEqDiff]
          repeat' (first
    | refine awp_seq_k fun K hK => ?_
    | (refine awp_region_vcl ?_; simp (disch := first | omega | (apply Hp.ne_of <;> assumption) | fail) only [go_sem, hy4, if_le_pos, List.length_map, wrap_in, cutOff_lt, Hp.put_ne, Int.reduceToNat, Nat.reduceMul, Nat.reduceAdd, Nat.reduceLeDiff, Nat.reduceSub, Nat.reduceEqDiff])
    | (refine awp_region_eff (id := 23) [0, 1, 2, 3, 4, 5, 6, 7, 8, 9, 10, 11, 12, 13, 14, 15, 16, 17, 18, 19, 20, 21, 22] mixed (by decide +kernel) ?_; simp only [List.map_cons, List.map_nil, atO, List.getD_cons_zero, List.getD_cons_succ]; simp (disch := first | omega | (apply Hp.ne_of <;> assumption) | fail) only [go_sem, hy4, if_le_pos, List.length_map, wrap_in, cutOff_lt, Hp.put_ne, Int.reduceToNat, Nat.reduceMul, Nat.reduceAdd, Nat.reduceLeDiff, Nat.reduceSub, Nat.reduceEqDiff])
    | (refine awp_region_eff (id := 25) [0, 1, 2, 3, 4, 6, 7, 8, 9, 5, 10, 11, 12, 13] mixed (by decide +kernel) ?_; simp only [List.map_cons, List.map_nil, atO, List.getD_cons_zero, List.getD_cons_succ]; simp (disch := first | omega | (apply Hp.ne_of <;> assumption) | fail) only [go_sem, hy4, if_le_pos, List.length_map, wrap_in, cutOff_lt, Hp.put_ne, Int.reduceToNat, Nat.reduceMul, Nat.reduceAdd, Nat.reduceLeDiff, Nat.reduceSub, Nat.reduceEqDiff])
    | (refine awp_region_eff (id := 26) [0, 1, 2, 3, 4, 6, 7, 8, 9, 5, 10, 11, 12, 13] mixed (by decide +kernel) ?_; simp only [List.map_cons, List.map_nil, atO, List.getD_cons_zero, List.getD_cons_succ]; simp (disch := first | omega | (apply Hp.ne_of <;> assumption) | fail) only [go_sem, hy4, if_le_pos, List.length_map, wrap_in, cutOff_lt, Hp.put_ne, Int.reduceToNat, Nat.reduceMul, Nat.reduceAdd, Nat.reduceLeDiff, Nat.reduceSub, Nat.reduceEqDiff])
    | (refine hK _ _ ?_; clear hK K)
    | refine awp_block ?_
    | (refine awp_cond rfl (fun hc => ?_) (fun hc => ?_) <;> (try contradiction) <;> (try simp only [Bool.and_eq_true, Bool.or_eq_true, Bool.and_eq_false_iff, Bool.or_eq_false_iff, decide_eq_true_eq, decide_eq_false_iff_not, Bool.not_eq_true', Bool.not_eq_false', Int.not_lt, Int.not_le] at hc))
    | (refine awp_skip ?_; try simp only [go_sem, hy4, if_le_pos, List.length_map])
    | (refine awp_exit ?_; try simp only [go_sem, hy4, if_le_pos, List.length_map, Int.reduceToNat, Nat.reduceMul, Nat.reduceAdd, Nat.reduceLeDiff, Nat.reduceSub, Nat.reduceEqDiff])
    | (refine awp_ret ?_; try simp only [go_sem, hy4, if_le_pos, List.length_map, Int.reduceToNat, Nat.reduceMul, Nat.reduceAdd, Nat.reduceLeDiff, Nat.reduceSub, Nat.reduceEqDiff])
    | (refine vAlloc_intro (by simp only [go_sem, hy4, if_le_pos, List.length_map]) fun b hb => ?_; (try simp only [Hp.put_none] at hb); simp (disch := first | omega | (apply Hp.ne_of <;> assumption) | fail) only [go_sem, hy4, if_le_pos, List.length_map, wrap_in, cutOff_lt, Hp.put_ne, Int.reduceToNat, Nat.reduceMul, Nat.reduceAdd, Nat.reduceLeDiff, Nat.reduceSub, Nat.reduceEqDiff])
    | (refine vBox_intro (by simp only [go_sem, hy4, if_le_pos, List.length_map]) fun b hb => ?_; (try simp only [Hp.put_none] at hb); simp (disch := first | omega | (apply Hp.ne_of <;> assumption) | fail) only [go_sem, hy4, if_le_pos, List.length_map, wrap_in, cutOff_lt, Hp.put_ne, Int.reduceToNat, Nat.reduceMul, Nat.reduceAdd, Nat.reduceLeDiff, Nat.reduceSub, Nat.reduceEqDiff])
    | (refine ap_intro ?_; simp (disch := first | omega | (apply Hp.ne_of <;> assumption) | fail) only [go_sem, hy4, if_le_pos, List.length_map, wrap_in, cutOff_lt, Hp.put_ne, Int.reduceToNat, Nat.reduceMul, Nat.reduceAdd, Nat.reduceLeDiff, Nat.reduceSub, Nat.reduceEqDiff])
    | (refine And.intro (by first | omega | (simp +contextual; done) | (simp +contextual; intros; omega)) ?_)
    | (clear hK K))
          have hB5 : ∀ R, B.Sub (H4.put yb R) := fun R => put_own (hBs.trans hO4.1) hB0 R
          have hne : ∀ c r, H4 c = some r → r.elem = 3 → c ≠ yb := fun c r hc he => by
            rintro rfl
            rw [hy4] at hc
            cases hc
            exact absurd he (show (38 : Nat) ≠ 3 by decide)
          refine append_own (e := 3) (sz := 1) (ys := ((M.map GThingI.it).take b).map eN) un_35 sz_3 (by rw [ze_3]; rfl) (Own.lit (Hp.Sub.refl _) _ _ _) (src_ints (by omega) (by simp; omega)) (by rw [by_3]; simp; omega) (by simp; omega) ?_
          rintro a6 H6 hO6 _
          rw [List.nil_append] at hO6
          have hy6 := hO6.1 _ _ (Hp.put_same _ _ _)
          simp (disch := first | omega | (apply Hp.ne_of <;> assumption) | fail) only [go_sem, hy6, if_le_pos, wrap_in, cutOff_lt, Hp.put_ne, Int.reduceToNat, Nat.reduceMul, Nat.reduceAdd, Nat.reduceLeDiff, Nat.reduceSub, Nat.reduceEqDiff]
          repeat' (first
    | refine awp_seq_k fun K hK => ?_
    | (refine awp_region_vcl ?_; simp (disch := first | omega | (apply Hp.ne_of <;> assumption) | fail) only [go_sem, hy6, if_le_pos, List.length_map, wrap_in, cutOff_lt, Hp.put_ne, Int.reduceToNat, Nat.reduceMul, Nat.reduceAdd, Nat.reduceLeDiff, Nat.reduceSub, Nat.reduceEqDiff])
    | (refine awp_region_eff (id := 23) [0, 1, 2, 3, 4, 5, 6, 7, 8, 9, 10, 11, 12, 13, 14, 15, 16, 17, 18, 19, 20, 21, 22] mixed (by decide +kernel) ?_; simp only [List.map_cons, List.map_nil, atO, List.getD_cons_zero, List.getD_cons_succ]; simp (disch := first | omega | (apply Hp.ne_of <;> assumption) | fail) only [go_sem, hy6, if_le_pos, List.length_map, wrap_in, cutOff_lt, Hp.put_ne, Int.reduceToNat, Nat.reduceMul, Nat.reduceAdd, Nat.reduceLeDiff, Nat.reduceSub, Nat.reduceEqDiff])
    | (refine awp_region_eff (id := 25) [0, 1, 2, 3, 4, 6, 7, 8, 9, 5, 10, 11, 12, 13] mixed (by decide +kernel) ?_; simp only [List.map_cons, List.map_nil, atO, List.getD_cons_zero, List.getD_cons_succ]; simp (disch := first | omega | (apply Hp.ne_of <;> assumption) | fail) only [go_sem, hy6, if_le_pos, List.length_map, wrap_in, cutOff_lt, Hp.put_ne, Int.reduceToNat, Nat.reduceMul, Nat.reduceAdd, Nat.reduceLeDiff, Nat.reduceSub, Nat.reduceEqDiff])
    | (refine awp_region_eff (id := 26) [0, 1, 2, 3, 4, 6, 7, 8, 9, 5, 10, 11, 12, 13] mixed (by decide +kernel) ?_; simp only [List.map_cons, List.map_nil, atO, List.getD_cons_zero, List.getD_cons_succ]; simp (disch := first | omega | (apply Hp.ne_of <;> assumption) | fail) only [go_sem, hy6, if_le_pos, List.length_map, wrap_in, cutOff_lt, Hp.put_ne, Int.reduceToNat, Nat.reduceMul, Nat.reduceAdd, Nat.reduceLeDiff, Nat.reduceSub, Nat.reduceEqDiff])
    | (refine hK _ _ ?_; clear hK K)
    | refine awp_block ?_
    | (refine awp_cond rfl (fun hc => ?_) (fun hc => ?_) <;> (try contradiction) <;> (try simp only [Bool.and_eq_true, Bool.or_eq_true, Bool.and_eq_false_iff, Bool.or_eq_false_iff, decide_eq_true_eq, decide_eq_false_iff_not, Bool.not_eq_true', Bool.not_eq_false', Int.not_lt, Int.not_le] at hc))
    | (refine awp_skip ?_; try simp only [go_sem, hy6, if_le_pos, List.length_map])
    | (refine awp_exit ?_; try simp only [go_sem, hy6, if_le_pos, List.length_map, Int.reduceToNat, Nat.reduceMul, Nat.reduceAdd, Nat.reduceLeDiff, Nat.reduceSub, Nat.reduceEqDiff])
    | (refine awp_ret ?_; try simp only [go_sem, hy6, if_le_pos, List.length_map, Int.reduceToNat, Nat.reduceMul, Nat.reduceAdd, Nat.reduceLeDiff, Nat.reduceSub, Nat.reduceEqDiff])
    | (refine vAlloc_intro (by simp only [go_sem, hy6, if_le_pos, List.length_map]) fun b hb => ?_; (try simp only [Hp.put_none] at hb); simp (disch := first | omega | (apply Hp.ne_of <;> assumption) | fail) only [go_sem, hy6, if_le_pos, List.length_map, wrap_in, cutOff_lt, Hp.put_ne, Int.reduceToNat, Nat.reduceMul, Nat.reduceAdd, Nat.reduceLeDiff, Nat.reduceSub, Nat.reduceEqDiff])
    | (refine vBox_intro (by simp only [go_sem, hy6, if_le_pos, List.length_map]) fun b hb => ?_; (try simp only [Hp.put_none] at hb); simp (disch := first | omega | (apply Hp.ne_of <;> assumption) | fail) only [go_sem, hy6, if_le_pos, List.length_map, wrap_in, cutOff_lt, Hp.put_ne, Int.reduceToNat, Nat.reduceMul, Nat.reduceAdd, Nat.reduceLeDiff, Nat.reduceSub, Nat.reduceEqDiff])
    | (refine ap_intro ?_; simp (disch := first | omega | (apply Hp.ne_of <;> assumption) | fail) only [go_sem, hy6, if_le_pos, List.length_map, wrap_in, cutOff_lt, Hp.put_ne, Int.reduceToNat, Nat.reduceMul, Nat.reduceAdd, Nat.reduceLeDiff, Nat.reduceSub, Nat.reduceEqDiff])
    | (refine And.intro (by first | omega | (simp +contextual; done) | (simp +contextual; intros; omega)) ?_)
    | (clear hK K))
          refine append_own (e := 3) (sz := 1) (ys := ((M.map GThingI.it).drop (b + 1)).map eN) un_35 sz_3 (by rw [ze_3]; rfl) hO6 (src_intd (by simp)) (by rw [by_3]; simp; omega) (by simp; omega) ?_
          rintro a7 H7 hO7 _
          rw [g1] at hO7
          have hy7 := hO7.1 _ _ (Hp.put_same _ _ _)
          obtain ⟨v7, rfl⟩ := hO7.raw (fun e => by have := congrArg List.length e; rw [g2] at this; simp at this; omega)
          rcases hO7.form with ⟨h0, _⟩ | ⟨sb7, c7, rfl, hc7, hsB7, hsb7⟩
          · have := congrArg List.length h0; rw [g2] at this; simp at this; omega
          have hne7 : ∀ c r, H7 c = some r → r.elem = 3 → c ≠ yb := fun c r hc he => by
            rintro rfl
            rw [hy7] at hc
            cases hc
            exact absurd he (show (38 : Nat) ≠ 3 by decide)
          have hB7 : ∀ R, B.Sub (H7.put yb R) := fun R => put_own ((hB5 _).trans hO7.1) hB0 R
          have hF1 := fun R => own_keep (own_less hO4 hBs) (hB7 R) fun c r hc he => by
            have hn := hne c r hc he
            rw [Hp.put_ne _ _ hn]
            exact hO7.1 _ _ (by rw [Hp.put_ne _ _ hn]; exact hc)
          have hF2 := fun R => own_keep (own_less hO7 (hB5 _)) (hB7 R) fun c r hc he => by
            rw [Hp.put_ne _ _ (hne7 c r hc he)]; exact hc
          simp (disch := first | omega | (apply Hp.ne_of <;> assumption) | fail) only [go_sem, hy7, if_le_pos, wrap_in, cutOff_lt, Hp.put_ne, Int.reduceToNat, Nat.reduceMul, Nat.reduceAdd, Nat.reduceLeDiff, Nat.reduceSub, Nat.reduceEqDiff]
          repeat' (first
    | refine awp_seq_k fun K hK => ?_
    | (refine awp_region_vcl ?_; simp (disch := first | omega | (apply Hp.ne_of <;> assumption) | fail) only [go_sem, hy7, if_le_pos, List.length_map, wrap_in, cutOff_lt, Hp.put_ne, Int.reduceToNat, Nat.reduceMul, Nat.reduceAdd, Nat.reduceLeDiff, Nat.reduceSub, Nat.reduceEqDiff])
    | (refine awp_region_eff (id := 23) [0, 1, 2, 3, 4, 5, 6, 7, 8, 9, 10, 11, 12, 13, 14, 15, 16, 17, 18, 19, 20, 21, 22] mixed (by decide +kernel) ?_; simp only [List.map_cons, List.map_nil, atO, List.getD_cons_zero, List.getD_cons_succ]; simp (disch := first | omega | (apply Hp.ne_of <;> assumption) | fail) only [go_sem, hy7, if_le_pos, List.length_map, wrap_in, cutOff_lt, Hp.put_ne, Int.reduceToNat, Nat.reduceMul, Nat.reduceAdd, Nat.reduceLeDiff, Nat.reduceSub, Nat.reduceEqDiff])
    | (refine awp_region_eff (id := 25) [0, 1, 2, 3, 4, 6, 7, 8, 9, 5, 10, 11, 12, 13] mixed (by decide +kernel) ?_; simp only [List.map_cons, List.map_nil, atO, List.getD_cons_zero, List.getD_cons_succ]; simp (disch := first | omega | (apply Hp.ne_of <;> assumption) | fail) only [go_sem, hy7, if_le_pos, List.length_map, wrap_in, cutOff_lt, Hp.put_ne, Int.reduceToNat, Nat.reduceMul, Nat.reduceAdd, Nat.reduceLeDiff, Nat.reduceSub, Nat.reduceEqDiff])
    | (refine awp_region_eff (id := 26) [0, 1, 2, 3, 4, 6, 7, 8, 9, 5, 10, 11, 12, 13] mixed (by decide +kernel) ?_; simp only [List.map_cons, List.map_nil, atO, List.getD_cons_zero, List.getD_cons_succ]; simp (disch := first | omega | (apply Hp.ne_of <;> assumption) | fail) only [go_sem, hy7, if_le_pos, List.length_map, wrap_in, cutOff_lt, Hp.put_ne, Int.reduceToNat, Nat.reduceMul, Nat.reduceAdd, Nat.reduceLeDiff, Nat.reduceSub, Nat.reduceEqDiff])
    | (refine hK _ _ ?_; clear hK K)
    | refine awp_block ?_
    | (refine awp_cond rfl (fun hc => ?_) (fun hc => ?_) <;> (try contradiction) <;> (try simp only [Bool.and_eq_true, Bool.or_eq_true, Bool.and_eq_false_iff, Bool.or_eq_false_iff, decide_eq_true_eq, decide_eq_false_iff_not, Bool.not_eq_true', Bool.not_eq_false', Int.not_lt, Int.not_le] at hc))
    | (refine awp_skip ?_; try simp only [go_sem, hy7, if_le_pos, List.length_map])
    | (refine awp_exit ?_; try simp only [go_sem, hy7, if_le_pos, List.length_map, Int.reduceToNat, Nat.reduceMul, Nat.reduceAdd, Nat.reduceLeDiff, Nat.reduceSub, Nat.reduceEqDiff])
    | (refine awp_ret ?_; try simp only [go_sem, hy7, if_le_pos, List.length_map, Int.reduceToNat, Nat.reduceMul, Nat.reduceAdd, Nat.reduceLeDiff, Nat.reduceSub, Nat.reduceEqDiff])
    | (refine vAlloc_intro (by simp only [go_sem, hy7, if_le_pos, List.length_map]) fun b hb => ?_; (try simp only [Hp.put_none] at hb); simp (disch := first | omega | (apply Hp.ne_of <;> assumption) | fail) only [go_sem, hy7, if_le_pos, List.length_map, wrap_in, cutOff_lt, Hp.put_ne, Int.reduceToNat, Nat.reduceMul, Nat.reduceAdd, Nat.reduceLeDiff, Nat.reduceSub, Nat.reduceEqDiff])
    | (refine vBox_intro (by simp only [go_sem, hy7, if_le_pos, List.length_map]) fun b hb => ?_; (try simp only [Hp.put_none] at hb); simp (disch := first | omega | (apply Hp.ne_of <;> assumption) | fail) only [go_sem, hy7, if_le_pos, List.length_map, wrap_in, cutOff_lt, Hp.put_ne, Int.reduceToNat, Nat.reduceMul, Nat.reduceAdd, Nat.reduceLeDiff, Nat.reduceSub, Nat.reduceEqDiff])
    | (refine ap_intro ?_; simp (disch := first | omega | (apply Hp.ne_of <;> assumption) | fail) only [go_sem, hy7, if_le_pos, List.length_map, wrap_in, cutOff_lt, Hp.put_ne, Int.reduceToNat, Nat.reduceMul, Nat.reduceAdd, Nat.reduceLeDiff, Nat.reduceSub, Nat.reduceEqDiff])
    | (refine And.intro (by first | omega | (simp +contextual; done) | (simp +contextual; intros; omega)) ?_)
    | (clear hK K))
          refine ret_mk (.inl rfl) rfl (.tup []) (B.put yb (rowY m (putK GThingI.at_ m L ⟨t, x⟩))) ?_ ⟨rfl, rfl⟩
          rw [hpM]
          simp only [rowY, ints, slOf]
          exact rle_rows2 _ (hF1 _) (hF2 _) (by simp) (fun i hi => map_get (f := fun n : Int => [.raw (.int .i64 n)]) hi) (by simp) (fun i hi => map_get (f := fun n : Int => [.raw (.int .i64 n)]) hi) hB0 (Hp.put_same _ _ _) (by decide)
end Go.Proofs.Ytemapkbfpkdddaa

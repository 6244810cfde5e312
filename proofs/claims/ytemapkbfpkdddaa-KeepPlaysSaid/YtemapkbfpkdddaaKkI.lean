/- Drop of what is kept. No conditions. -/
import Derived.Test.YtemapkbfpkdddaaKgI
set_option linter.all false
namespace Go.Proofs.Ytemapkbfpkdddaa
open Go Go.Fc
set_option maxHeartbeats 400000 in
set_option maxRecDepth 10000 in
theorem dropI_c {B H : Hp} {kb : Nat} {m t : Int} {L : List GThingI} (h : KPI B H kb m L) (hL : RiseK GThingI.at_ L) (hl : L.length ≤ 500) : ACalls Try.prog 11 [ptrAt kb, .raw (.int .i64 t)] H (fun r H' => r = .tup [] ∧ KPI B H' kb m (dropK GThingI.at_ L t)) := by
  have hv := KP.vto h
  obtain ⟨hkB, v, hk, hO⟩ := h
  have hfl := fnd_le (key := GThingI.at_) L t
  have hmap : (L.map eGThingI).take (bestK GThingI.at_ L t) ++ (L.map eGThingI).drop (L.map eGThingI).length = (dropK GThingI.at_ L t).map eGThingI := by
    rw [List.drop_length, List.append_nil, ← List.map_take]; rfl
  have hbl : bestK GThingI.at_ L t ≤ L.length := by
    unfold bestK
    split
    · rename_i hh
      have := fnd_lt_has hh
      omega
    · omega
  rcases hO.form with ⟨h0, rfl⟩ | ⟨sb, c, rfl, hc2, hsB, hsb⟩
  · obtain rfl : L = [] := by simpa using h0
    have hh : hasK GThingI.at_ [] t = false := rfl
    have hf0 : fnd GThingI.at_ [] t = 0 := rfl
    refine acalls_enter Try.func11 rfl (by simp only [Try.ntmps11, List.length_cons, List.length_nil, Nat.reduceAdd, Nat.reduceSub, List.replicate, List.cons_append, List.nil_append]; rfl) ?_
    repeat' (first
    | refine awp_seq_k fun K hK => ?_
    | (refine awp_region_vcl ?_; simp (disch := first | omega | (apply Hp.ne_of <;> assumption) | fail) only [go_sem, hk, if_le_pos, wrap_in, cutOff_lt, Hp.put_ne, Int.reduceToNat, Nat.reduceMul, Nat.reduceAdd, Nat.reduceLeDiff, Nat.reduceSub, Nat.reduceEqDiff])
    | (refine awp_region_eff (id := 3) [0, 1, 2, 3, 4, 5, 6, 7, 8, 9, 10, 11, 12, 13, 14] mixed (by decide +kernel) ?_; simp only [List.map_cons, List.map_nil, atO, List.getD_cons_zero, List.getD_cons_succ]; simp (disch := first | omega | (apply Hp.ne_of <;> assumption) | fail) only [go_sem, hk, if_le_pos, wrap_in, cutOff_lt, Hp.put_ne, Int.reduceToNat, Nat.reduceMul, Nat.reduceAdd, Nat.reduceLeDiff, Nat.reduceSub, Nat.reduceEqDiff])
    | (refine hK _ _ ?_; clear hK K)
    | refine awp_block ?_
    | (refine awp_cond rfl (fun hc => ?_) (fun hc => ?_) <;> (try contradiction) <;> (try simp only [Bool.and_eq_true, Bool.or_eq_true, Bool.and_eq_false_iff, Bool.or_eq_false_iff, decide_eq_true_eq, decide_eq_false_iff_not, Bool.not_eq_true', Bool.not_eq_false', Int.not_lt, Int.not_le] at hc))
    | (refine awp_skip ?_; try simp only [go_sem, hk, if_le_pos])
    | (refine awp_exit ?_; try simp only [go_sem, hk, if_le_pos, Int.reduceToNat, Nat.reduceMul, Nat.reduceAdd, Nat.reduceLeDiff, Nat.reduceSub, Nat.reduceEqDiff])
    | (refine awp_ret ?_; try simp only [go_sem, hk, if_le_pos, Int.reduceToNat, Nat.reduceMul, Nat.reduceAdd, Nat.reduceLeDiff, Nat.reduceSub, Nat.reduceEqDiff])
    | (refine vAlloc_intro (by simp only [go_sem, hk, if_le_pos]) fun b hb => ?_; (try simp only [Hp.put_none] at hb); simp (disch := first | omega | (apply Hp.ne_of <;> assumption) | fail) only [go_sem, hk, if_le_pos, wrap_in, cutOff_lt, Hp.put_ne, Int.reduceToNat, Nat.reduceMul, Nat.reduceAdd, Nat.reduceLeDiff, Nat.reduceSub, Nat.reduceEqDiff])
    | (refine vBox_intro (by simp only [go_sem, hk, if_le_pos]) fun b hb => ?_; (try simp only [Hp.put_none] at hb); simp (disch := first | omega | (apply Hp.ne_of <;> assumption) | fail) only [go_sem, hk, if_le_pos, wrap_in, cutOff_lt, Hp.put_ne, Int.reduceToNat, Nat.reduceMul, Nat.reduceAdd, Nat.reduceLeDiff, Nat.reduceSub, Nat.reduceEqDiff])
    | (refine ap_intro ?_; simp (disch := first | omega | (apply Hp.ne_of <;> assumption) | fail) only [go_sem, hk, if_le_pos, wrap_in, cutOff_lt, Hp.put_ne, Int.reduceToNat, Nat.reduceMul, Nat.reduceAdd, Nat.reduceLeDiff, Nat.reduceSub, Nat.reduceEqDiff])
    | (refine And.intro (by first | omega | (simp +contextual; done) | (simp +contextual; intros; omega)) ?_)
    | (refine vcall_raw cb_19 (pcall_of (pcall_lift (findI_c [] m t H0 hL (by omega)) rfl ⟨hv, VTo.refl _ _, trivial⟩) ?_); rw [hh, hf0])
    | (refine vcall_raw cb_22 ((deleteI_c (i := 0) (j := 0) hO (by omega) (by simp) (by simp)).mono ?_); rintro r H3 ⟨⟨v3, rfl⟩, hO3, hkeep3⟩; have hk3 := hkeep3 _ _ hk (own_other hO hk (show (47 : Nat) ≠ 51 by decide)); have hKP := KP.mk (most := m) (tk := 47) hO3 hkB hk3 rfl (by decide); rcases hO3.form with ⟨_, rfl⟩ | ⟨sb3, c3, rfl, _⟩ <;> simp (disch := first | omega | (apply Hp.ne_of <;> assumption) | fail) only [go_sem, hk, if_le_pos, hk3, if_le_pos, wrap_in, cutOff_lt, Hp.put_ne, Int.reduceToNat, Nat.reduceMul, Nat.reduceAdd, Nat.reduceLeDiff, Nat.reduceSub, Nat.reduceEqDiff])
    | (clear hK K))
    all_goals
      refine ret_mk (.inl rfl) rfl _ _ (RLe.refl _ _) ?_
      exact ⟨rfl, hKP⟩
  · simp only [List.length_map] at hO hk hc2 hmap
    cases hh : hasK GThingI.at_ L t
    · have hbk : bestK GThingI.at_ L t = fnd GThingI.at_ L t := by simp [bestK, hh]
      rw [hbk] at hmap
      refine acalls_enter Try.func11 rfl (by simp only [Try.ntmps11, List.length_cons, List.length_nil, Nat.reduceAdd, Nat.reduceSub, List.replicate, List.cons_append, List.nil_append]; rfl) ?_
      repeat' (first
    | refine awp_seq_k fun K hK => ?_
    | (refine awp_region_vcl ?_; simp (disch := first | omega | (apply Hp.ne_of <;> assumption) | fail) only [go_sem, hk, if_le_pos, wrap_in, cutOff_lt, Hp.put_ne, Int.reduceToNat, Nat.reduceMul, Nat.reduceAdd, Nat.reduceLeDiff, Nat.reduceSub, Nat.reduceEqDiff])
    | (refine awp_region_eff (id := 3) [0, 1, 2, 3, 4, 5, 6, 7, 8, 9, 10, 11, 12, 13, 14] mixed (by decide +kernel) ?_; simp only [List.map_cons, List.map_nil, atO, List.getD_cons_zero, List.getD_cons_succ]; simp (disch := first | omega | (apply Hp.ne_of <;> assumption) | fail) only [go_sem, hk, if_le_pos, wrap_in, cutOff_lt, Hp.put_ne, Int.reduceToNat, Nat.reduceMul, Nat.reduceAdd, Nat.reduceLeDiff, Nat.reduceSub, Nat.reduceEqDiff])
    | (refine hK _ _ ?_; clear hK K)
    | refine awp_block ?_
    | (refine awp_cond rfl (fun hc => ?_) (fun hc => ?_) <;> (try contradiction) <;> (try simp only [Bool.and_eq_true, Bool.or_eq_true, Bool.and_eq_false_iff, Bool.or_eq_false_iff, decide_eq_true_eq, decide_eq_false_iff_not, Bool.not_eq_true', Bool.not_eq_false', Int.not_lt, Int.not_le] at hc))
    | (refine awp_skip ?_; try simp only [go_sem, hk, if_le_pos])
    | (refine awp_exit ?_; try simp only [go_sem, hk, if_le_pos, Int.reduceToNat, Nat.reduceMul, Nat.reduceAdd, Nat.reduceLeDiff, Nat.reduceSub, Nat.reduceEqDiff])
    | (refine awp_ret ?_; try simp only [go_sem, hk, if_le_pos, Int.reduceToNat, Nat.reduceMul, Nat.reduceAdd, Nat.reduceLeDiff, Nat.reduceSub, Nat.reduceEqDiff])
    | (refine vAlloc_intro (by simp only [go_sem, hk, if_le_pos]) fun b hb => ?_; (try simp only [Hp.put_none] at hb); simp (disch := first | omega | (apply Hp.ne_of <;> assumption) | fail) only [go_sem, hk, if_le_pos, wrap_in, cutOff_lt, Hp.put_ne, Int.reduceToNat, Nat.reduceMul, Nat.reduceAdd, Nat.reduceLeDiff, Nat.reduceSub, Nat.reduceEqDiff])
    | (refine vBox_intro (by simp only [go_sem, hk, if_le_pos]) fun b hb => ?_; (try simp only [Hp.put_none] at hb); simp (disch := first | omega | (apply Hp.ne_of <;> assumption) | fail) only [go_sem, hk, if_le_pos, wrap_in, cutOff_lt, Hp.put_ne, Int.reduceToNat, Nat.reduceMul, Nat.reduceAdd, Nat.reduceLeDiff, Nat.reduceSub, Nat.reduceEqDiff])
    | (refine ap_intro ?_; simp (disch := first | omega | (apply Hp.ne_of <;> assumption) | fail) only [go_sem, hk, if_le_pos, wrap_in, cutOff_lt, Hp.put_ne, Int.reduceToNat, Nat.reduceMul, Nat.reduceAdd, Nat.reduceLeDiff, Nat.reduceSub, Nat.reduceEqDiff])
    | (refine And.intro (by first | omega | (simp +contextual; done) | (simp +contextual; intros; omega)) ?_)
    | (refine vcall_raw cb_19 (pcall_of (pcall_lift (findI_c L m t H0 hL (by omega)) rfl ⟨hv, VTo.refl _ _, trivial⟩) ?_); rw [hh])
    | (refine vcall_raw cb_22 ((deleteI_c (i := fnd GThingI.at_ L t) (j := L.length) hO (by omega) (by simp) (by simp; omega)).mono ?_); rintro r H3 ⟨⟨v3, rfl⟩, hO3, hkeep3⟩; have hk3 := hkeep3 _ _ hk (own_other hO hk (show (47 : Nat) ≠ 51 by decide)); rw [hmap] at hO3; have hKP := KP.mk (most := m) (tk := 47) hO3 hkB hk3 rfl (by decide); rcases hO3.form with ⟨_, rfl⟩ | ⟨sb3, c3, rfl, _⟩ <;> simp (disch := first | omega | (apply Hp.ne_of <;> assumption) | fail) only [go_sem, hk, if_le_pos, hk3, if_le_pos, wrap_in, cutOff_lt, Hp.put_ne, Int.reduceToNat, Nat.reduceMul, Nat.reduceAdd, Nat.reduceLeDiff, Nat.reduceSub, Nat.reduceEqDiff])
    | (clear hK K))
      all_goals
        refine ret_mk (.inl rfl) rfl _ _ (RLe.refl _ _) ?_
        exact ⟨rfl, hKP⟩
    · have hbk : bestK GThingI.at_ L t = fnd GThingI.at_ L t + 1 := by simp [bestK, hh]
      have hlt := fnd_lt_has hh
      rw [hbk] at hmap
      refine acalls_enter Try.func11 rfl (by simp only [Try.ntmps11, List.length_cons, List.length_nil, Nat.reduceAdd, Nat.reduceSub, List.replicate, List.cons_append, List.nil_append]; rfl) ?_
      repeat' (first
    | refine awp_seq_k fun K hK => ?_
    | (refine awp_region_vcl ?_; simp (disch := first | omega | (apply Hp.ne_of <;> assumption) | fail) only [go_sem, hk, if_le_pos, wrap_in, cutOff_lt, Hp.put_ne, Int.reduceToNat, Nat.reduceMul, Nat.reduceAdd, Nat.reduceLeDiff, Nat.reduceSub, Nat.reduceEqDiff])
    | (refine awp_region_eff (id := 3) [0, 1, 2, 3, 4, 5, 6, 7, 8, 9, 10, 11, 12, 13, 14] mixed (by decide +kernel) ?_; simp only [List.map_cons, List.map_nil, atO, List.getD_cons_zero, List.getD_cons_succ]; simp (disch := first | omega | (apply Hp.ne_of <;> assumption) | fail) only [go_sem, hk, if_le_pos, wrap_in, cutOff_lt, Hp.put_ne, Int.reduceToNat, Nat.reduceMul, Nat.reduceAdd, Nat.reduceLeDiff, Nat.reduceSub, Nat.reduceEqDiff])
    | (refine hK _ _ ?_; clear hK K)
    | refine awp_block ?_
    | (refine awp_cond rfl (fun hc => ?_) (fun hc => ?_) <;> (try contradiction) <;> (try simp only [Bool.and_eq_true, Bool.or_eq_true, Bool.and_eq_false_iff, Bool.or_eq_false_iff, decide_eq_true_eq, decide_eq_false_iff_not, Bool.not_eq_true', Bool.not_eq_false', Int.not_lt, Int.not_le] at hc))
    | (refine awp_skip ?_; try simp only [go_sem, hk, if_le_pos])
    | (refine awp_exit ?_; try simp only [go_sem, hk, if_le_pos, Int.reduceToNat, Nat.reduceMul, Nat.reduceAdd, Nat.reduceLeDiff, Nat.reduceSub, Nat.reduceEqDiff])
    | (refine awp_ret ?_; try simp only [go_sem, hk, if_le_pos, Int.reduceToNat, Nat.reduceMul, Nat.reduceAdd, Nat.reduceLeDiff, Nat.reduceSub, Nat.reduceEqDiff])
    | (refine vAlloc_intro (by simp only [go_sem, hk, if_le_pos]) fun b hb => ?_; (try simp only [Hp.put_none] at hb); simp (disch := first | omega | (apply Hp.ne_of <;> assumption) | fail) only [go_sem, hk, if_le_pos, wrap_in, cutOff_lt, Hp.put_ne, Int.reduceToNat, Nat.reduceMul, Nat.reduceAdd, Nat.reduceLeDiff, Nat.reduceSub, Nat.reduceEqDiff])
    | (refine vBox_intro (by simp only [go_sem, hk, if_le_pos]) fun b hb => ?_; (try simp only [Hp.put_none] at hb); simp (disch := first | omega | (apply Hp.ne_of <;> assumption) | fail) only [go_sem, hk, if_le_pos, wrap_in, cutOff_lt, Hp.put_ne, Int.reduceToNat, Nat.reduceMul, Nat.reduceAdd, Nat.reduceLeDiff, Nat.reduceSub, Nat.reduceEqDiff])
    | (refine ap_intro ?_; simp (disch := first | omega | (apply Hp.ne_of <;> assumption) | fail) only [go_sem, hk, if_le_pos, wrap_in, cutOff_lt, Hp.put_ne, Int.reduceToNat, Nat.reduceMul, Nat.reduceAdd, Nat.reduceLeDiff, Nat.reduceSub, Nat.reduceEqDiff])
    | (refine And.intro (by first | omega | (simp +contextual; done) | (simp +contextual; intros; omega)) ?_)
    | (refine vcall_raw cb_19 (pcall_of (pcall_lift (findI_c L m t H0 hL (by omega)) rfl ⟨hv, VTo.refl _ _, trivial⟩) ?_); rw [hh])
    | (refine vcall_raw cb_22 ((deleteI_c (i := fnd GThingI.at_ L t + 1) (j := L.length) hO (by omega) (by simp) (by simp; omega)).mono ?_); rintro r H3 ⟨⟨v3, rfl⟩, hO3, hkeep3⟩; have hk3 := hkeep3 _ _ hk (own_other hO hk (show (47 : Nat) ≠ 51 by decide)); rw [hmap] at hO3; have hKP := KP.mk (most := m) (tk := 47) hO3 hkB hk3 rfl (by decide); rcases hO3.form with ⟨_, rfl⟩ | ⟨sb3, c3, rfl, _⟩ <;> simp (disch := first | omega | (apply Hp.ne_of <;> assumption) | fail) only [go_sem, hk, if_le_pos, hk3, if_le_pos, wrap_in, cutOff_lt, Hp.put_ne, Int.reduceToNat, Nat.reduceMul, Nat.reduceAdd, Nat.reduceLeDiff, Nat.reduceSub, Nat.reduceEqDiff])
    | (clear hK K))
      all_goals
        refine ret_mk (.inl rfl) rfl _ _ (RLe.refl _ _) ?_
        exact ⟨rfl, hKP⟩
end Go.Proofs.Ytemapkbfpkdddaa

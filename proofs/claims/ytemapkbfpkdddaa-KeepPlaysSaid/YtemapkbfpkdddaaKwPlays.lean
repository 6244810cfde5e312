/- KeepPlays tells the truth. No conditions. -/
import Derived.Test.YtemapkbfpkdddaaKh
import Derived.Test.YtemapkbfpkdddaaKkI
import Derived.Test.YtemapkbfpkdddaaKt
import Derived.Test.YtemapkbfpkdddaaKv
set_option linter.all false
namespace Go.Proofs.Ytemapkbfpkdddaa
open Go Go.Fc
attribute [go_sem] rowY
theorem tell_tup (L : List GThingI) (t : Int) : ∃ (b x : Int) (ok : Bool), tellI L t = .tup [.raw (.int .i64 b), .raw (.int .i64 x), .raw (.bool ok)] := by
  unfold tellI; split <;> exact ⟨_, _, _, rfl⟩
set_option maxHeartbeats 1600000 in
set_option maxRecDepth 10000 in
theorem keepPlays_c (mo : Int) (l : List GOp) (H : Hp) (hln : l.length ≤ 9223372036854775807) : PCall Try.prog 3 [.raw (.int .i64 mo), slOf eGOp 3 l] H (.raw (.bool true)) := by
  obtain ⟨n, hn⟩ : ∃ n : Int, (if mo < 1 then 1 else mo) = n := ⟨_, rfl⟩
  have hn1 : 1 ≤ n := by rw [← hn]; split <;> omega
  refine pcall_enter Try.func3 rfl (by simp only [Try.ntmps3, List.length_cons, List.length_nil, Nat.reduceAdd, Nat.reduceSub, List.replicate, List.cons_append, List.nil_append]; rfl) ?_
  repeat' (first
    | refine awp_seq_k fun K hK => ?_
    | (refine awp_region_vcl ?_; simp (disch := omega) only [go_sem, wrap_in, cutOff_lt, Hp.put_ne, Int.reduceToNat, Nat.reduceMul, Nat.reduceAdd, Nat.reduceLeDiff, Nat.reduceSub, Nat.reduceEqDiff])
    | (refine awp_region_draw (id := 23) mixed (by decide +kernel) ?_; simp (disch := omega) only [go_sem, wrap_in, cutOff_lt, Hp.put_ne, Int.reduceToNat, Nat.reduceMul, Nat.reduceAdd, Nat.reduceLeDiff, Nat.reduceSub, Nat.reduceEqDiff])
    | (refine hK _ _ ?_; clear hK K)
    | refine awp_block ?_
    | (refine awp_cond rfl (fun hc => ?_) (fun hc => ?_) <;> (try contradiction) <;> (try simp only [Bool.and_eq_true, Bool.or_eq_true, Bool.and_eq_false_iff, Bool.or_eq_false_iff, decide_eq_true_eq, decide_eq_false_iff_not, Bool.not_eq_true', Bool.not_eq_false', Int.not_lt, Int.not_le] at hc))
    | (refine awp_skip ?_; try simp only [go_sem])
    | (refine awp_exit ?_; try simp only [go_sem, Int.reduceToNat, Nat.reduceMul, Nat.reduceAdd, Nat.reduceLeDiff, Nat.reduceSub, Nat.reduceEqDiff])
    | (refine awp_ret ?_; try simp only [go_sem, Int.reduceToNat, Nat.reduceMul, Nat.reduceAdd, Nat.reduceLeDiff, Nat.reduceSub, Nat.reduceEqDiff])
    | (refine vAlloc_intro (by simp only [go_sem]) fun b hb => ?_; (try simp only [Hp.put_none] at hb); simp (disch := omega) only [go_sem, wrap_in, cutOff_lt, Hp.put_ne, Int.reduceToNat, Nat.reduceMul, Nat.reduceAdd, Nat.reduceLeDiff, Nat.reduceSub, Nat.reduceEqDiff])
    | (refine vBox_intro (by simp only [go_sem]) fun b hb => ?_; (try simp only [Hp.put_none] at hb); simp (disch := omega) only [go_sem, wrap_in, cutOff_lt, Hp.put_ne, Int.reduceToNat, Nat.reduceMul, Nat.reduceAdd, Nat.reduceLeDiff, Nat.reduceSub, Nat.reduceEqDiff])
    | (refine ap_intro ?_; simp (disch := omega) only [go_sem, wrap_in, cutOff_lt, Hp.put_ne, Int.reduceToNat, Nat.reduceMul, Nat.reduceAdd, Nat.reduceLeDiff, Nat.reduceSub, Nat.reduceEqDiff])
    | (refine And.intro (by first | omega | (simp +contextual; done) | (simp +contextual; intros; omega)) ?_)
    | (refine vcall_raw cb_4 (pcall_of (kshown_c _) ?_))
    | (refine vcall_raw cb_5 ((newI_c mo _).mono ?_); rintro r H1 ⟨kb, rfl, hK1⟩; rw [hn] at hK1; simp (disch := omega) only [go_sem, wrap_in, cutOff_lt, Hp.put_ne, Int.reduceToNat, Nat.reduceMul, Nat.reduceAdd, Nat.reduceLeDiff, Nat.reduceSub, Nat.reduceEqDiff])
    | (refine vcall_raw cb_6 ((rnew_c mo _).mono ?_); rintro r H2 ⟨yb, rfl, hy0, rfl⟩; rw [hn]; simp (disch := omega) only [go_sem, wrap_in, cutOff_lt, Hp.put_ne, Int.reduceToNat, Nat.reduceMul, Nat.reduceAdd, Nat.reduceLeDiff, Nat.reduceSub, Nat.reduceEqDiff])
    | (clear hK K))
  have hKo := hK; clear hK
  refine awp_loop_inv (S := Nat) [(8, 9), (28, 82)] (fun i H' => i ≤ l.length ∧ i ≤ 60 ∧ ∃ G0 L, KPI H G0 kb n L ∧ G0 yb = none ∧ H' = G0.put yb (rowY n L) ∧ RiseK GThingI.at_ L ∧ (L.length : Int) ≤ n ∧ L.length ≤ i) (fun i => [(8, .raw (.int .i64 i))]) (fun i => 60 - i) 0 ⟨by omega, by omega, H1, [], hK1, hy0, rfl, List.Pairwise.nil, by simp; omega, by simp⟩ (by (simp only [go_sem, LLe, Nat.reduceAdd, AV.raw.injEq, Value.int.injEq, Value.slice.injEq, Value.pointer.injEq]; try omega)) ?_
  clear hK1 hy0
  rintro i H2 ⟨hi1, hi2, G0, L, hK1, hKy, rfl, hri, hlm, hli⟩ Kr hKr
  obtain ⟨b1, x1, ok1, et⟩ := tell_tup L (nth l i).at_
  have hyH := hK1.sub.none hKy
  simp (disch := omega) only [go_sem, wrap_in, cutOff_lt, Hp.put_ne, Int.reduceToNat, Nat.reduceMul, Nat.reduceAdd, Nat.reduceLeDiff, Nat.reduceSub, Nat.reduceEqDiff]
  repeat' (first
    | refine awp_seq_k fun K hK => ?_
    | (refine awp_region_vcl ?_; simp (disch := omega) only [go_sem, wrap_in, cutOff_lt, Hp.put_ne, Int.reduceToNat, Nat.reduceMul, Nat.reduceAdd, Nat.reduceLeDiff, Nat.reduceSub, Nat.reduceEqDiff])
    | (refine awp_region_draw (id := 23) mixed (by decide +kernel) ?_; simp (disch := omega) only [go_sem, wrap_in, cutOff_lt, Hp.put_ne, Int.reduceToNat, Nat.reduceMul, Nat.reduceAdd, Nat.reduceLeDiff, Nat.reduceSub, Nat.reduceEqDiff])
    | (refine hK _ _ ?_; clear hK K)
    | refine awp_block ?_
    | (refine awp_cond rfl (fun hc => ?_) (fun hc => ?_) <;> (try contradiction) <;> (try simp only [Bool.and_eq_true, Bool.or_eq_true, Bool.and_eq_false_iff, Bool.or_eq_false_iff, decide_eq_true_eq, decide_eq_false_iff_not, Bool.not_eq_true', Bool.not_eq_false', Int.not_lt, Int.not_le] at hc))
    | (refine awp_skip ?_; try simp only [go_sem])
    | (refine awp_exit ?_; try simp only [go_sem, Int.reduceToNat, Nat.reduceMul, Nat.reduceAdd, Nat.reduceLeDiff, Nat.reduceSub, Nat.reduceEqDiff])
    | (refine awp_ret ?_; try simp only [go_sem, Int.reduceToNat, Nat.reduceMul, Nat.reduceAdd, Nat.reduceLeDiff, Nat.reduceSub, Nat.reduceEqDiff])
    | (refine vAlloc_intro (by simp only [go_sem]) fun b hb => ?_; (try simp only [Hp.put_none] at hb); simp (disch := omega) only [go_sem, wrap_in, cutOff_lt, Hp.put_ne, Int.reduceToNat, Nat.reduceMul, Nat.reduceAdd, Nat.reduceLeDiff, Nat.reduceSub, Nat.reduceEqDiff])
    | (refine vBox_intro (by simp only [go_sem]) fun b hb => ?_; (try simp only [Hp.put_none] at hb); simp (disch := omega) only [go_sem, wrap_in, cutOff_lt, Hp.put_ne, Int.reduceToNat, Nat.reduceMul, Nat.reduceAdd, Nat.reduceLeDiff, Nat.reduceSub, Nat.reduceEqDiff])
    | (refine ap_intro ?_; simp (disch := omega) only [go_sem, wrap_in, cutOff_lt, Hp.put_ne, Int.reduceToNat, Nat.reduceMul, Nat.reduceAdd, Nat.reduceLeDiff, Nat.reduceSub, Nat.reduceEqDiff])
    | (refine And.intro (by first | omega | (simp +contextual; done) | (simp +contextual; intros; omega)) ?_)
    | (refine hKo _ _ ?_)
    | (clear hK K))
  all_goals first
    | (obtain ⟨hby, hKb⟩ := hb
       have hb : (G0.put yb (rowY n L)) b = none := Hp.put_none.2 ⟨hby, hKb⟩
       have hbH0 : (H.put yb (rowY n L)) b = none := (KP.put hK1 hKy (r := rowY n L)).sub.none hb
       have hyb : ((G0.put yb (rowY n L)).put b ⟨29, eGOp (nth l i), 3⟩) yb = some ⟨38, [.raw (.int .i64 n), ints (L.map GThingI.at_), ints (L.map GThingI.it)], 3⟩ := (by rw [Hp.put_ne _ _ (Ne.symm hby)]; exact Hp.put_same _ _ _))
    | skip
  · refine vcall_raw cb_7 ((putI_c (t := (nth l i).at_) (x := (nth l i).x) (KP.put (KP.put hK1 hKy) hb) hri (by omega) hn1).mono ?_)
    rintro r H3 ⟨rfl, hK3⟩
    have hy3 : H3 yb = some (rowY n L) := hK3.sub _ _ (by rw [Hp.put_ne _ _ (Ne.symm hby)]; exact Hp.put_same _ _ _)
    have hb3 : H3 b = some ⟨29, eGOp (nth l i), 3⟩ := hK3.sub _ _ (Hp.put_same _ _ _)
    have hG := kp_del hK3 ((Hp.Sub.refl H).put _ hyH |>.put _ (hK1.sub.none hKb)) hyH (show _ = some (rowY n L) by rw [Hp.put_ne _ _ (Ne.symm hby)]; exact Hp.put_same _ _ _)
    have hGy := Hp.del_same H3 yb
    have hX := Hp.del_put hy3
    have hGb : (H3.del yb) b = some ⟨29, eGOp (nth l i), 3⟩ := by rw [Hp.del_ne _ hby]; exact hb3
    generalize H3.del yb = G at *
    subst hX
    simp (disch := first | omega | (apply Hp.ne_of <;> assumption) | fail) only [go_sem, hGb, hby, wrap_in, cutOff_lt, Hp.put_ne, Int.reduceToNat, Nat.reduceMul, Nat.reduceAdd, Nat.reduceLeDiff, Nat.reduceSub, Nat.reduceEqDiff]
    repeat' (first
    | refine awp_seq_k fun K hK => ?_
    | (refine awp_region_vcl ?_; simp (disch := first | omega | (apply Hp.ne_of <;> assumption) | fail) only [go_sem, hGb, hby, if_le_pos, wrap_in, cutOff_lt, Hp.put_ne, Int.reduceToNat, Nat.reduceMul, Nat.reduceAdd, Nat.reduceLeDiff, Nat.reduceSub, Nat.reduceEqDiff])
    | (refine awp_region_draw (id := 23) mixed (by decide +kernel) ?_; simp (disch := first | omega | (apply Hp.ne_of <;> assumption) | fail) only [go_sem, hGb, hby, if_le_pos, wrap_in, cutOff_lt, Hp.put_ne, Int.reduceToNat, Nat.reduceMul, Nat.reduceAdd, Nat.reduceLeDiff, Nat.reduceSub, Nat.reduceEqDiff])
    | (refine hK _ _ ?_; clear hK K)
    | refine awp_block ?_
    | (refine awp_cond rfl (fun hc => ?_) (fun hc => ?_) <;> (try contradiction) <;> (try simp only [Bool.and_eq_true, Bool.or_eq_true, Bool.and_eq_false_iff, Bool.or_eq_false_iff, decide_eq_true_eq, decide_eq_false_iff_not, Bool.not_eq_true', Bool.not_eq_false', Int.not_lt, Int.not_le] at hc))
    | (refine awp_skip ?_; try simp only [go_sem, hGb, hby, if_le_pos])
    | (refine awp_exit ?_; try simp only [go_sem, hGb, hby, if_le_pos, Int.reduceToNat, Nat.reduceMul, Nat.reduceAdd, Nat.reduceLeDiff, Nat.reduceSub, Nat.reduceEqDiff])
    | (refine awp_ret ?_; try simp only [go_sem, hGb, hby, if_le_pos, Int.reduceToNat, Nat.reduceMul, Nat.reduceAdd, Nat.reduceLeDiff, Nat.reduceSub, Nat.reduceEqDiff])
    | (refine vAlloc_intro (by simp only [go_sem, hGb, hby, if_le_pos]) fun b hb => ?_; (try simp only [Hp.put_none] at hb); simp (disch := first | omega | (apply Hp.ne_of <;> assumption) | fail) only [go_sem, hGb, hby, if_le_pos, wrap_in, cutOff_lt, Hp.put_ne, Int.reduceToNat, Nat.reduceMul, Nat.reduceAdd, Nat.reduceLeDiff, Nat.reduceSub, Nat.reduceEqDiff])
    | (refine vBox_intro (by simp only [go_sem, hGb, hby, if_le_pos]) fun b hb => ?_; (try simp only [Hp.put_none] at hb); simp (disch := first | omega | (apply Hp.ne_of <;> assumption) | fail) only [go_sem, hGb, hby, if_le_pos, wrap_in, cutOff_lt, Hp.put_ne, Int.reduceToNat, Nat.reduceMul, Nat.reduceAdd, Nat.reduceLeDiff, Nat.reduceSub, Nat.reduceEqDiff])
    | (refine ap_intro ?_; simp (disch := first | omega | (apply Hp.ne_of <;> assumption) | fail) only [go_sem, hGb, hby, if_le_pos, wrap_in, cutOff_lt, Hp.put_ne, Int.reduceToNat, Nat.reduceMul, Nat.reduceAdd, Nat.reduceLeDiff, Nat.reduceSub, Nat.reduceEqDiff])
    | (refine And.intro (by first | omega | (simp +contextual; done) | (simp +contextual; intros; omega)) ?_)
    | (clear hK K))
    refine vcall_raw cb_8 ((rput_c (t := (nth l i).at_) (x := (nth l i).x) hGy hri (by omega) hn1 hlm).mono ?_)
    rintro r H4 ⟨rfl, rfl⟩
    obtain ⟨hp1, hp2⟩ := putK_len (key := GThingI.at_) n L ⟨(nth l i).at_, (nth l i).x⟩ hn1 hlm
    have hp3 := putK_rise (key := GThingI.at_) (most := n) (e := ⟨(nth l i).at_, (nth l i).x⟩) hri
    generalize putK GThingI.at_ n L ⟨(nth l i).at_, (nth l i).x⟩ = L' at *
    simp (disch := omega) only [go_sem, wrap_in, cutOff_lt, Hp.put_ne, Int.reduceToNat, Nat.reduceMul, Nat.reduceAdd, Nat.reduceLeDiff, Nat.reduceSub, Nat.reduceEqDiff]
    repeat' (first
    | refine awp_seq_k fun K hK => ?_
    | (refine awp_region_vcl ?_; simp (disch := first | omega | (apply Hp.ne_of <;> assumption) | fail) only [go_sem, if_le_pos, wrap_in, cutOff_lt, Hp.put_ne, Int.reduceToNat, Nat.reduceMul, Nat.reduceAdd, Nat.reduceLeDiff, Nat.reduceSub, Nat.reduceEqDiff])
    | (refine awp_region_draw (id := 23) mixed (by decide +kernel) ?_; simp (disch := first | omega | (apply Hp.ne_of <;> assumption) | fail) only [go_sem, if_le_pos, wrap_in, cutOff_lt, Hp.put_ne, Int.reduceToNat, Nat.reduceMul, Nat.reduceAdd, Nat.reduceLeDiff, Nat.reduceSub, Nat.reduceEqDiff])
    | (refine hK _ _ ?_; clear hK K)
    | refine awp_block ?_
    | (refine awp_cond rfl (fun hc => ?_) (fun hc => ?_) <;> (try contradiction) <;> (try simp only [Bool.and_eq_true, Bool.or_eq_true, Bool.and_eq_false_iff, Bool.or_eq_false_iff, decide_eq_true_eq, decide_eq_false_iff_not, Bool.not_eq_true', Bool.not_eq_false', Int.not_lt, Int.not_le] at hc))
    | (refine awp_skip ?_; try simp only [go_sem, if_le_pos])
    | (refine awp_exit ?_; try simp only [go_sem, if_le_pos, Int.reduceToNat, Nat.reduceMul, Nat.reduceAdd, Nat.reduceLeDiff, Nat.reduceSub, Nat.reduceEqDiff])
    | (refine awp_ret ?_; try simp only [go_sem, if_le_pos, Int.reduceToNat, Nat.reduceMul, Nat.reduceAdd, Nat.reduceLeDiff, Nat.reduceSub, Nat.reduceEqDiff])
    | (refine vAlloc_intro (by simp only [go_sem, if_le_pos]) fun b hb => ?_; (try simp only [Hp.put_none] at hb); simp (disch := first | omega | (apply Hp.ne_of <;> assumption) | fail) only [go_sem, if_le_pos, wrap_in, cutOff_lt, Hp.put_ne, Int.reduceToNat, Nat.reduceMul, Nat.reduceAdd, Nat.reduceLeDiff, Nat.reduceSub, Nat.reduceEqDiff])
    | (refine vBox_intro (by simp only [go_sem, if_le_pos]) fun b hb => ?_; (try simp only [Hp.put_none] at hb); simp (disch := first | omega | (apply Hp.ne_of <;> assumption) | fail) only [go_sem, if_le_pos, wrap_in, cutOff_lt, Hp.put_ne, Int.reduceToNat, Nat.reduceMul, Nat.reduceAdd, Nat.reduceLeDiff, Nat.reduceSub, Nat.reduceEqDiff])
    | (refine ap_intro ?_; simp (disch := first | omega | (apply Hp.ne_of <;> assumption) | fail) only [go_sem, if_le_pos, wrap_in, cutOff_lt, Hp.put_ne, Int.reduceToNat, Nat.reduceMul, Nat.reduceAdd, Nat.reduceLeDiff, Nat.reduceSub, Nat.reduceEqDiff])
    | (refine And.intro (by first | omega | (simp +contextual; done) | (simp +contextual; intros; omega)) ?_)
    | (refine ⟨_, vcall_raw cb_14 (timesI_c (KP.put hG hGy) (by omega)), ?_⟩; try (simp (disch := first | omega | (apply Hp.ne_of <;> assumption) | fail) only [go_sem, if_le_pos, wrap_in, cutOff_lt, Hp.put_ne, Int.reduceToNat, Nat.reduceMul, Nat.reduceAdd, Nat.reduceLeDiff, Nat.reduceSub, Nat.reduceEqDiff]))
    | (refine ⟨_, vcall_raw cb_13 (rints_c _ _ _ (by simp; omega) (by simp; omega)), ?_⟩; try (simp (disch := first | omega | (apply Hp.ne_of <;> assumption) | fail) only [go_sem, if_le_pos, wrap_in, cutOff_lt, Hp.put_ne, Int.reduceToNat, Nat.reduceMul, Nat.reduceAdd, Nat.reduceLeDiff, Nat.reduceSub, Nat.reduceEqDiff]))
    | (clear hK K))
    refine hKr _ _ (next_mk (i + 1) ⟨by omega, by omega, G, L', hG, hGy, rfl, hp3, hp2, by omega⟩ (by (try simp only); omega) (by (simp only [go_sem, LLe, Nat.reduceAdd, AV.raw.injEq, Value.int.injEq, Value.slice.injEq, Value.pointer.injEq]; try omega)))
  · repeat' (first
    | refine awp_seq_k fun K hK => ?_
    | (refine awp_region_vcl ?_; simp (disch := first | omega | (apply Hp.ne_of <;> assumption) | fail) only [go_sem, et, wrap_in, cutOff_lt, Hp.put_ne, Int.reduceToNat, Nat.reduceMul, Nat.reduceAdd, Nat.reduceLeDiff, Nat.reduceSub, Nat.reduceEqDiff])
    | (refine awp_region_draw (id := 23) mixed (by decide +kernel) ?_; simp (disch := first | omega | (apply Hp.ne_of <;> assumption) | fail) only [go_sem, et, wrap_in, cutOff_lt, Hp.put_ne, Int.reduceToNat, Nat.reduceMul, Nat.reduceAdd, Nat.reduceLeDiff, Nat.reduceSub, Nat.reduceEqDiff])
    | (refine hK _ _ ?_; clear hK K)
    | refine awp_block ?_
    | (refine awp_cond rfl (fun hc => ?_) (fun hc => ?_) <;> (try contradiction) <;> (try simp only [Bool.and_eq_true, Bool.or_eq_true, Bool.and_eq_false_iff, Bool.or_eq_false_iff, decide_eq_true_eq, decide_eq_false_iff_not, Bool.not_eq_true', Bool.not_eq_false', Int.not_lt, Int.not_le] at hc))
    | (refine awp_skip ?_; try simp only [go_sem, et])
    | (refine awp_exit ?_; try simp only [go_sem, et, Int.reduceToNat, Nat.reduceMul, Nat.reduceAdd, Nat.reduceLeDiff, Nat.reduceSub, Nat.reduceEqDiff])
    | (refine awp_ret ?_; try simp only [go_sem, et, Int.reduceToNat, Nat.reduceMul, Nat.reduceAdd, Nat.reduceLeDiff, Nat.reduceSub, Nat.reduceEqDiff])
    | (refine vAlloc_intro (by simp only [go_sem, et]) fun b hb => ?_; (try simp only [Hp.put_none] at hb); simp (disch := first | omega | (apply Hp.ne_of <;> assumption) | fail) only [go_sem, et, wrap_in, cutOff_lt, Hp.put_ne, Int.reduceToNat, Nat.reduceMul, Nat.reduceAdd, Nat.reduceLeDiff, Nat.reduceSub, Nat.reduceEqDiff])
    | (refine vBox_intro (by simp only [go_sem, et]) fun b hb => ?_; (try simp only [Hp.put_none] at hb); simp (disch := first | omega | (apply Hp.ne_of <;> assumption) | fail) only [go_sem, et, wrap_in, cutOff_lt, Hp.put_ne, Int.reduceToNat, Nat.reduceMul, Nat.reduceAdd, Nat.reduceLeDiff, Nat.reduceSub, Nat.reduceEqDiff])
    | (refine ap_intro ?_; simp (disch := first | omega | (apply Hp.ne_of <;> assumption) | fail) only [go_sem, et, wrap_in, cutOff_lt, Hp.put_ne, Int.reduceToNat, Nat.reduceMul, Nat.reduceAdd, Nat.reduceLeDiff, Nat.reduceSub, Nat.reduceEqDiff])
    | (refine And.intro (by first | omega | (simp +contextual; done) | (simp +contextual; intros; omega)) ?_)
    | (exfalso; simp only [beq_self_eq_true, Bool.true_eq_false] at hc; done)
    | (refine vcall_raw cb_9 (pcall_of (pcall_lift (bestI_c L n (nth l i).at_ H0 hri (by omega)) (tellI_flat _ _) ⟨KP.vto (KP.put (KP.put hK1 hKy) hb), VTo.refl _ _, trivial⟩) ?_); rw [et])
    | (refine vcall_raw cb_10 (pcall_of (pcall_lift (rbest_c L n (nth l i).at_ H0 hri (by omega)) (tellI_flat _ _) ⟨VTo.ptr hyb, VTo.refl _ _, trivial⟩) ?_); rw [et])
    | (clear hK K))
    rw [Hp.put_comm (Ne.symm hby)]
    have hG := KP.base (KP.put (r := ⟨29, eGOp (nth l i), 3⟩) hK1 hKb) ((Hp.Sub.refl H).put _ (hK1.sub.none hKb))
    have hGy : (G0.put b ⟨29, eGOp (nth l i), 3⟩) yb = none := Hp.put_none.2 ⟨Ne.symm hby, hKy⟩
    generalize G0.put b ⟨29, eGOp (nth l i), 3⟩ = G at *
    repeat' (first
    | refine awp_seq_k fun K hK => ?_
    | (refine awp_region_vcl ?_; simp (disch := first | omega | (apply Hp.ne_of <;> assumption) | fail) only [go_sem, if_le_pos, wrap_in, cutOff_lt, Hp.put_ne, Int.reduceToNat, Nat.reduceMul, Nat.reduceAdd, Nat.reduceLeDiff, Nat.reduceSub, Nat.reduceEqDiff])
    | (refine awp_region_draw (id := 23) mixed (by decide +kernel) ?_; simp (disch := first | omega | (apply Hp.ne_of <;> assumption) | fail) only [go_sem, if_le_pos, wrap_in, cutOff_lt, Hp.put_ne, Int.reduceToNat, Nat.reduceMul, Nat.reduceAdd, Nat.reduceLeDiff, Nat.reduceSub, Nat.reduceEqDiff])
    | (refine hK _ _ ?_; clear hK K)
    | refine awp_block ?_
    | (refine awp_cond rfl (fun hc => ?_) (fun hc => ?_) <;> (try contradiction) <;> (try simp only [Bool.and_eq_true, Bool.or_eq_true, Bool.and_eq_false_iff, Bool.or_eq_false_iff, decide_eq_true_eq, decide_eq_false_iff_not, Bool.not_eq_true', Bool.not_eq_false', Int.not_lt, Int.not_le] at hc))
    | (refine awp_skip ?_; try simp only [go_sem, if_le_pos])
    | (refine awp_exit ?_; try simp only [go_sem, if_le_pos, Int.reduceToNat, Nat.reduceMul, Nat.reduceAdd, Nat.reduceLeDiff, Nat.reduceSub, Nat.reduceEqDiff])
    | (refine awp_ret ?_; try simp only [go_sem, if_le_pos, Int.reduceToNat, Nat.reduceMul, Nat.reduceAdd, Nat.reduceLeDiff, Nat.reduceSub, Nat.reduceEqDiff])
    | (refine vAlloc_intro (by simp only [go_sem, if_le_pos]) fun b hb => ?_; (try simp only [Hp.put_none] at hb); simp (disch := first | omega | (apply Hp.ne_of <;> assumption) | fail) only [go_sem, if_le_pos, wrap_in, cutOff_lt, Hp.put_ne, Int.reduceToNat, Nat.reduceMul, Nat.reduceAdd, Nat.reduceLeDiff, Nat.reduceSub, Nat.reduceEqDiff])
    | (refine vBox_intro (by simp only [go_sem, if_le_pos]) fun b hb => ?_; (try simp only [Hp.put_none] at hb); simp (disch := first | omega | (apply Hp.ne_of <;> assumption) | fail) only [go_sem, if_le_pos, wrap_in, cutOff_lt, Hp.put_ne, Int.reduceToNat, Nat.reduceMul, Nat.reduceAdd, Nat.reduceLeDiff, Nat.reduceSub, Nat.reduceEqDiff])
    | (refine ap_intro ?_; simp (disch := first | omega | (apply Hp.ne_of <;> assumption) | fail) only [go_sem, if_le_pos, wrap_in, cutOff_lt, Hp.put_ne, Int.reduceToNat, Nat.reduceMul, Nat.reduceAdd, Nat.reduceLeDiff, Nat.reduceSub, Nat.reduceEqDiff])
    | (refine And.intro (by first | omega | (simp +contextual; done) | (simp +contextual; intros; omega)) ?_)
    | (refine ⟨_, vcall_raw cb_14 (timesI_c (KP.put hG hGy) (by omega)), ?_⟩; try (simp (disch := first | omega | (apply Hp.ne_of <;> assumption) | fail) only [go_sem, if_le_pos, wrap_in, cutOff_lt, Hp.put_ne, Int.reduceToNat, Nat.reduceMul, Nat.reduceAdd, Nat.reduceLeDiff, Nat.reduceSub, Nat.reduceEqDiff]))
    | (refine ⟨_, vcall_raw cb_13 (rints_c _ _ _ (by simp; omega) (by simp; omega)), ?_⟩; try (simp (disch := first | omega | (apply Hp.ne_of <;> assumption) | fail) only [go_sem, if_le_pos, wrap_in, cutOff_lt, Hp.put_ne, Int.reduceToNat, Nat.reduceMul, Nat.reduceAdd, Nat.reduceLeDiff, Nat.reduceSub, Nat.reduceEqDiff]))
    | (clear hK K))
    refine hKr _ _ (next_mk (i + 1) ⟨by omega, by omega, G, L, hG, hGy, rfl, hri, hlm, by omega⟩ (by (try simp only); omega) (by (simp only [go_sem, LLe, Nat.reduceAdd, AV.raw.injEq, Value.int.injEq, Value.slice.injEq, Value.pointer.injEq]; try omega)))
  · repeat' (first
    | refine awp_seq_k fun K hK => ?_
    | (refine awp_region_vcl ?_; simp (disch := first | omega | (apply Hp.ne_of <;> assumption) | fail) only [go_sem, et, wrap_in, cutOff_lt, Hp.put_ne, Int.reduceToNat, Nat.reduceMul, Nat.reduceAdd, Nat.reduceLeDiff, Nat.reduceSub, Nat.reduceEqDiff])
    | (refine awp_region_draw (id := 23) mixed (by decide +kernel) ?_; simp (disch := first | omega | (apply Hp.ne_of <;> assumption) | fail) only [go_sem, et, wrap_in, cutOff_lt, Hp.put_ne, Int.reduceToNat, Nat.reduceMul, Nat.reduceAdd, Nat.reduceLeDiff, Nat.reduceSub, Nat.reduceEqDiff])
    | (refine hK _ _ ?_; clear hK K)
    | refine awp_block ?_
    | (refine awp_cond rfl (fun hc => ?_) (fun hc => ?_) <;> (try contradiction) <;> (try simp only [Bool.and_eq_true, Bool.or_eq_true, Bool.and_eq_false_iff, Bool.or_eq_false_iff, decide_eq_true_eq, decide_eq_false_iff_not, Bool.not_eq_true', Bool.not_eq_false', Int.not_lt, Int.not_le] at hc))
    | (refine awp_skip ?_; try simp only [go_sem, et])
    | (refine awp_exit ?_; try simp only [go_sem, et, Int.reduceToNat, Nat.reduceMul, Nat.reduceAdd, Nat.reduceLeDiff, Nat.reduceSub, Nat.reduceEqDiff])
    | (refine awp_ret ?_; try simp only [go_sem, et, Int.reduceToNat, Nat.reduceMul, Nat.reduceAdd, Nat.reduceLeDiff, Nat.reduceSub, Nat.reduceEqDiff])
    | (refine vAlloc_intro (by simp only [go_sem, et]) fun b hb => ?_; (try simp only [Hp.put_none] at hb); simp (disch := first | omega | (apply Hp.ne_of <;> assumption) | fail) only [go_sem, et, wrap_in, cutOff_lt, Hp.put_ne, Int.reduceToNat, Nat.reduceMul, Nat.reduceAdd, Nat.reduceLeDiff, Nat.reduceSub, Nat.reduceEqDiff])
    | (refine vBox_intro (by simp only [go_sem, et]) fun b hb => ?_; (try simp only [Hp.put_none] at hb); simp (disch := first | omega | (apply Hp.ne_of <;> assumption) | fail) only [go_sem, et, wrap_in, cutOff_lt, Hp.put_ne, Int.reduceToNat, Nat.reduceMul, Nat.reduceAdd, Nat.reduceLeDiff, Nat.reduceSub, Nat.reduceEqDiff])
    | (refine ap_intro ?_; simp (disch := first | omega | (apply Hp.ne_of <;> assumption) | fail) only [go_sem, et, wrap_in, cutOff_lt, Hp.put_ne, Int.reduceToNat, Nat.reduceMul, Nat.reduceAdd, Nat.reduceLeDiff, Nat.reduceSub, Nat.reduceEqDiff])
    | (refine And.intro (by first | omega | (simp +contextual; done) | (simp +contextual; intros; omega)) ?_)
    | (exfalso; simp only [beq_self_eq_true, Bool.true_eq_false] at hc; done)
    | (refine vcall_raw cb_9 (pcall_of (pcall_lift (bestI_c L n (nth l i).at_ H0 hri (by omega)) (tellI_flat _ _) ⟨KP.vto (KP.put (KP.put hK1 hKy) hb), VTo.refl _ _, trivial⟩) ?_); rw [et])
    | (refine vcall_raw cb_10 (pcall_of (pcall_lift (rbest_c L n (nth l i).at_ H0 hri (by omega)) (tellI_flat _ _) ⟨VTo.ptr hyb, VTo.refl _ _, trivial⟩) ?_); rw [et])
    | (clear hK K))
    rw [Hp.put_comm (Ne.symm hby)]
    have hG := KP.base (KP.put (r := ⟨29, eGOp (nth l i), 3⟩) hK1 hKb) ((Hp.Sub.refl H).put _ (hK1.sub.none hKb))
    have hGy : (G0.put b ⟨29, eGOp (nth l i), 3⟩) yb = none := Hp.put_none.2 ⟨Ne.symm hby, hKy⟩
    generalize G0.put b ⟨29, eGOp (nth l i), 3⟩ = G at *
    repeat' (first
    | refine awp_seq_k fun K hK => ?_
    | (refine awp_region_vcl ?_; simp (disch := first | omega | (apply Hp.ne_of <;> assumption) | fail) only [go_sem, if_le_pos, wrap_in, cutOff_lt, Hp.put_ne, Int.reduceToNat, Nat.reduceMul, Nat.reduceAdd, Nat.reduceLeDiff, Nat.reduceSub, Nat.reduceEqDiff])
    | (refine awp_region_draw (id := 23) mixed (by decide +kernel) ?_; simp (disch := first | omega | (apply Hp.ne_of <;> assumption) | fail) only [go_sem, if_le_pos, wrap_in, cutOff_lt, Hp.put_ne, Int.reduceToNat, Nat.reduceMul, Nat.reduceAdd, Nat.reduceLeDiff, Nat.reduceSub, Nat.reduceEqDiff])
    | (refine hK _ _ ?_; clear hK K)
    | refine awp_block ?_
    | (refine awp_cond rfl (fun hc => ?_) (fun hc => ?_) <;> (try contradiction) <;> (try simp only [Bool.and_eq_true, Bool.or_eq_true, Bool.and_eq_false_iff, Bool.or_eq_false_iff, decide_eq_true_eq, decide_eq_false_iff_not, Bool.not_eq_true', Bool.not_eq_false', Int.not_lt, Int.not_le] at hc))
    | (refine awp_skip ?_; try simp only [go_sem, if_le_pos])
    | (refine awp_exit ?_; try simp only [go_sem, if_le_pos, Int.reduceToNat, Nat.reduceMul, Nat.reduceAdd, Nat.reduceLeDiff, Nat.reduceSub, Nat.reduceEqDiff])
    | (refine awp_ret ?_; try simp only [go_sem, if_le_pos, Int.reduceToNat, Nat.reduceMul, Nat.reduceAdd, Nat.reduceLeDiff, Nat.reduceSub, Nat.reduceEqDiff])
    | (refine vAlloc_intro (by simp only [go_sem, if_le_pos]) fun b hb => ?_; (try simp only [Hp.put_none] at hb); simp (disch := first | omega | (apply Hp.ne_of <;> assumption) | fail) only [go_sem, if_le_pos, wrap_in, cutOff_lt, Hp.put_ne, Int.reduceToNat, Nat.reduceMul, Nat.reduceAdd, Nat.reduceLeDiff, Nat.reduceSub, Nat.reduceEqDiff])
    | (refine vBox_intro (by simp only [go_sem, if_le_pos]) fun b hb => ?_; (try simp only [Hp.put_none] at hb); simp (disch := first | omega | (apply Hp.ne_of <;> assumption) | fail) only [go_sem, if_le_pos, wrap_in, cutOff_lt, Hp.put_ne, Int.reduceToNat, Nat.reduceMul, Nat.reduceAdd, Nat.reduceLeDiff, Nat.reduceSub, Nat.reduceEqDiff])
    | (refine ap_intro ?_; simp (disch := first | omega | (apply Hp.ne_of <;> assumption) | fail) only [go_sem, if_le_pos, wrap_in, cutOff_lt, Hp.put_ne, Int.reduceToNat, Nat.reduceMul, Nat.reduceAdd, Nat.reduceLeDiff, Nat.reduceSub, Nat.reduceEqDiff])
    | (refine And.intro (by first | omega | (simp +contextual; done) | (simp +contextual; intros; omega)) ?_)
    | (refine ⟨_, vcall_raw cb_14 (timesI_c (KP.put hG hGy) (by omega)), ?_⟩; try (simp (disch := first | omega | (apply Hp.ne_of <;> assumption) | fail) only [go_sem, if_le_pos, wrap_in, cutOff_lt, Hp.put_ne, Int.reduceToNat, Nat.reduceMul, Nat.reduceAdd, Nat.reduceLeDiff, Nat.reduceSub, Nat.reduceEqDiff]))
    | (refine ⟨_, vcall_raw cb_13 (rints_c _ _ _ (by simp; omega) (by simp; omega)), ?_⟩; try (simp (disch := first | omega | (apply Hp.ne_of <;> assumption) | fail) only [go_sem, if_le_pos, wrap_in, cutOff_lt, Hp.put_ne, Int.reduceToNat, Nat.reduceMul, Nat.reduceAdd, Nat.reduceLeDiff, Nat.reduceSub, Nat.reduceEqDiff]))
    | (clear hK K))
    refine hKr _ _ (next_mk (i + 1) ⟨by omega, by omega, G, L, hG, hGy, rfl, hri, hlm, by omega⟩ (by (try simp only); omega) (by (simp only [go_sem, LLe, Nat.reduceAdd, AV.raw.injEq, Value.int.injEq, Value.slice.injEq, Value.pointer.injEq]; try omega)))
  · refine vcall_raw cb_11 ((dropI_c (t := (nth l i).at_) (KP.put (KP.put hK1 hKy) hb) hri (by omega)).mono ?_)
    rintro r H3 ⟨rfl, hK3⟩
    have hy3 : H3 yb = some (rowY n L) := hK3.sub _ _ (by rw [Hp.put_ne _ _ (Ne.symm hby)]; exact Hp.put_same _ _ _)
    have hb3 : H3 b = some ⟨29, eGOp (nth l i), 3⟩ := hK3.sub _ _ (Hp.put_same _ _ _)
    have hG := kp_del hK3 ((Hp.Sub.refl H).put _ hyH |>.put _ (hK1.sub.none hKb)) hyH (show _ = some (rowY n L) by rw [Hp.put_ne _ _ (Ne.symm hby)]; exact Hp.put_same _ _ _)
    have hGy := Hp.del_same H3 yb
    have hX := Hp.del_put hy3
    have hGb : (H3.del yb) b = some ⟨29, eGOp (nth l i), 3⟩ := by rw [Hp.del_ne _ hby]; exact hb3
    generalize H3.del yb = G at *
    subst hX
    simp (disch := first | omega | (apply Hp.ne_of <;> assumption) | fail) only [go_sem, hGb, hby, wrap_in, cutOff_lt, Hp.put_ne, Int.reduceToNat, Nat.reduceMul, Nat.reduceAdd, Nat.reduceLeDiff, Nat.reduceSub, Nat.reduceEqDiff]
    repeat' (first
    | refine awp_seq_k fun K hK => ?_
    | (refine awp_region_vcl ?_; simp (disch := first | omega | (apply Hp.ne_of <;> assumption) | fail) only [go_sem, hGb, hby, if_le_pos, wrap_in, cutOff_lt, Hp.put_ne, Int.reduceToNat, Nat.reduceMul, Nat.reduceAdd, Nat.reduceLeDiff, Nat.reduceSub, Nat.reduceEqDiff])
    | (refine awp_region_draw (id := 23) mixed (by decide +kernel) ?_; simp (disch := first | omega | (apply Hp.ne_of <;> assumption) | fail) only [go_sem, hGb, hby, if_le_pos, wrap_in, cutOff_lt, Hp.put_ne, Int.reduceToNat, Nat.reduceMul, Nat.reduceAdd, Nat.reduceLeDiff, Nat.reduceSub, Nat.reduceEqDiff])
    | (refine hK _ _ ?_; clear hK K)
    | refine awp_block ?_
    | (refine awp_cond rfl (fun hc => ?_) (fun hc => ?_) <;> (try contradiction) <;> (try simp only [Bool.and_eq_true, Bool.or_eq_true, Bool.and_eq_false_iff, Bool.or_eq_false_iff, decide_eq_true_eq, decide_eq_false_iff_not, Bool.not_eq_true', Bool.not_eq_false', Int.not_lt, Int.not_le] at hc))
    | (refine awp_skip ?_; try simp only [go_sem, hGb, hby, if_le_pos])
    | (refine awp_exit ?_; try simp only [go_sem, hGb, hby, if_le_pos, Int.reduceToNat, Nat.reduceMul, Nat.reduceAdd, Nat.reduceLeDiff, Nat.reduceSub, Nat.reduceEqDiff])
    | (refine awp_ret ?_; try simp only [go_sem, hGb, hby, if_le_pos, Int.reduceToNat, Nat.reduceMul, Nat.reduceAdd, Nat.reduceLeDiff, Nat.reduceSub, Nat.reduceEqDiff])
    | (refine vAlloc_intro (by simp only [go_sem, hGb, hby, if_le_pos]) fun b hb => ?_; (try simp only [Hp.put_none] at hb); simp (disch := first | omega | (apply Hp.ne_of <;> assumption) | fail) only [go_sem, hGb, hby, if_le_pos, wrap_in, cutOff_lt, Hp.put_ne, Int.reduceToNat, Nat.reduceMul, Nat.reduceAdd, Nat.reduceLeDiff, Nat.reduceSub, Nat.reduceEqDiff])
    | (refine vBox_intro (by simp only [go_sem, hGb, hby, if_le_pos]) fun b hb => ?_; (try simp only [Hp.put_none] at hb); simp (disch := first | omega | (apply Hp.ne_of <;> assumption) | fail) only [go_sem, hGb, hby, if_le_pos, wrap_in, cutOff_lt, Hp.put_ne, Int.reduceToNat, Nat.reduceMul, Nat.reduceAdd, Nat.reduceLeDiff, Nat.reduceSub, Nat.reduceEqDiff])
    | (refine ap_intro ?_; simp (disch := first | omega | (apply Hp.ne_of <;> assumption) | fail) only [go_sem, hGb, hby, if_le_pos, wrap_in, cutOff_lt, Hp.put_ne, Int.reduceToNat, Nat.reduceMul, Nat.reduceAdd, Nat.reduceLeDiff, Nat.reduceSub, Nat.reduceEqDiff])
    | (refine And.intro (by first | omega | (simp +contextual; done) | (simp +contextual; intros; omega)) ?_)
    | (clear hK K))
    refine vcall_raw cb_12 ((rdrop_c (t := (nth l i).at_) hGy hri (by omega)).mono ?_)
    rintro r H4 ⟨rfl, rfl⟩
    have hp1 := dropK_len (key := GThingI.at_) L (nth l i).at_
    have hp2 := bestK_le (key := GThingI.at_) L (nth l i).at_
    have hp3 := dropK_rise (key := GThingI.at_) (t := (nth l i).at_) hri
    generalize dropK GThingI.at_ L (nth l i).at_ = L' at *
    simp (disch := omega) only [go_sem, wrap_in, cutOff_lt, Hp.put_ne, Int.reduceToNat, Nat.reduceMul, Nat.reduceAdd, Nat.reduceLeDiff, Nat.reduceSub, Nat.reduceEqDiff]
    repeat' (first
    | refine awp_seq_k fun K hK => ?_
    | (refine awp_region_vcl ?_; simp (disch := first | omega | (apply Hp.ne_of <;> assumption) | fail) only [go_sem, if_le_pos, wrap_in, cutOff_lt, Hp.put_ne, Int.reduceToNat, Nat.reduceMul, Nat.reduceAdd, Nat.reduceLeDiff, Nat.reduceSub, Nat.reduceEqDiff])
    | (refine awp_region_draw (id := 23) mixed (by decide +kernel) ?_; simp (disch := first | omega | (apply Hp.ne_of <;> assumption) | fail) only [go_sem, if_le_pos, wrap_in, cutOff_lt, Hp.put_ne, Int.reduceToNat, Nat.reduceMul, Nat.reduceAdd, Nat.reduceLeDiff, Nat.reduceSub, Nat.reduceEqDiff])
    | (refine hK _ _ ?_; clear hK K)
    | refine awp_block ?_
    | (refine awp_cond rfl (fun hc => ?_) (fun hc => ?_) <;> (try contradiction) <;> (try simp only [Bool.and_eq_true, Bool.or_eq_true, Bool.and_eq_false_iff, Bool.or_eq_false_iff, decide_eq_true_eq, decide_eq_false_iff_not, Bool.not_eq_true', Bool.not_eq_false', Int.not_lt, Int.not_le] at hc))
    | (refine awp_skip ?_; try simp only [go_sem, if_le_pos])
    | (refine awp_exit ?_; try simp only [go_sem, if_le_pos, Int.reduceToNat, Nat.reduceMul, Nat.reduceAdd, Nat.reduceLeDiff, Nat.reduceSub, Nat.reduceEqDiff])
    | (refine awp_ret ?_; try simp only [go_sem, if_le_pos, Int.reduceToNat, Nat.reduceMul, Nat.reduceAdd, Nat.reduceLeDiff, Nat.reduceSub, Nat.reduceEqDiff])
    | (refine vAlloc_intro (by simp only [go_sem, if_le_pos]) fun b hb => ?_; (try simp only [Hp.put_none] at hb); simp (disch := first | omega | (apply Hp.ne_of <;> assumption) | fail) only [go_sem, if_le_pos, wrap_in, cutOff_lt, Hp.put_ne, Int.reduceToNat, Nat.reduceMul, Nat.reduceAdd, Nat.reduceLeDiff, Nat.reduceSub, Nat.reduceEqDiff])
    | (refine vBox_intro (by simp only [go_sem, if_le_pos]) fun b hb => ?_; (try simp only [Hp.put_none] at hb); simp (disch := first | omega | (apply Hp.ne_of <;> assumption) | fail) only [go_sem, if_le_pos, wrap_in, cutOff_lt, Hp.put_ne, Int.reduceToNat, Nat.reduceMul, Nat.reduceAdd, Nat.reduceLeDiff, Nat.reduceSub, Nat.reduceEqDiff])
    | (refine ap_intro ?_; simp (disch := first | omega | (apply Hp.ne_of <;> assumption) | fail) only [go_sem, if_le_pos, wrap_in, cutOff_lt, Hp.put_ne, Int.reduceToNat, Nat.reduceMul, Nat.reduceAdd, Nat.reduceLeDiff, Nat.reduceSub, Nat.reduceEqDiff])
    | (refine And.intro (by first | omega | (simp +contextual; done) | (simp +contextual; intros; omega)) ?_)
    | (refine ⟨_, vcall_raw cb_14 (timesI_c (KP.put hG hGy) (by omega)), ?_⟩; try (simp (disch := first | omega | (apply Hp.ne_of <;> assumption) | fail) only [go_sem, if_le_pos, wrap_in, cutOff_lt, Hp.put_ne, Int.reduceToNat, Nat.reduceMul, Nat.reduceAdd, Nat.reduceLeDiff, Nat.reduceSub, Nat.reduceEqDiff]))
    | (refine ⟨_, vcall_raw cb_13 (rints_c _ _ _ (by simp; omega) (by simp; omega)), ?_⟩; try (simp (disch := first | omega | (apply Hp.ne_of <;> assumption) | fail) only [go_sem, if_le_pos, wrap_in, cutOff_lt, Hp.put_ne, Int.reduceToNat, Nat.reduceMul, Nat.reduceAdd, Nat.reduceLeDiff, Nat.reduceSub, Nat.reduceEqDiff]))
    | (clear hK K))
    refine hKr _ _ (next_mk (i + 1) ⟨by omega, by omega, G, L', hG, hGy, rfl, hp3, by omega, by omega⟩ (by (try simp only); omega) (by (simp only [go_sem, LLe, Nat.reduceAdd, AV.raw.injEq, Value.int.injEq, Value.slice.injEq, Value.pointer.injEq]; try omega)))
  · skip
    rw [Hp.put_comm (Ne.symm hby)]
    have hG := KP.base (KP.put (r := ⟨29, eGOp (nth l i), 3⟩) hK1 hKb) ((Hp.Sub.refl H).put _ (hK1.sub.none hKb))
    have hGy : (G0.put b ⟨29, eGOp (nth l i), 3⟩) yb = none := Hp.put_none.2 ⟨Ne.symm hby, hKy⟩
    generalize G0.put b ⟨29, eGOp (nth l i), 3⟩ = G at *
    repeat' (first
    | refine awp_seq_k fun K hK => ?_
    | (refine awp_region_vcl ?_; simp (disch := first | omega | (apply Hp.ne_of <;> assumption) | fail) only [go_sem, if_le_pos, wrap_in, cutOff_lt, Hp.put_ne, Int.reduceToNat, Nat.reduceMul, Nat.reduceAdd, Nat.reduceLeDiff, Nat.reduceSub, Nat.reduceEqDiff])
    | (refine awp_region_draw (id := 23) mixed (by decide +kernel) ?_; simp (disch := first | omega | (apply Hp.ne_of <;> assumption) | fail) only [go_sem, if_le_pos, wrap_in, cutOff_lt, Hp.put_ne, Int.reduceToNat, Nat.reduceMul, Nat.reduceAdd, Nat.reduceLeDiff, Nat.reduceSub, Nat.reduceEqDiff])
    | (refine hK _ _ ?_; clear hK K)
    | refine awp_block ?_
    | (refine awp_cond rfl (fun hc => ?_) (fun hc => ?_) <;> (try contradiction) <;> (try simp only [Bool.and_eq_true, Bool.or_eq_true, Bool.and_eq_false_iff, Bool.or_eq_false_iff, decide_eq_true_eq, decide_eq_false_iff_not, Bool.not_eq_true', Bool.not_eq_false', Int.not_lt, Int.not_le] at hc))
    | (refine awp_skip ?_; try simp only [go_sem, if_le_pos])
    | (refine awp_exit ?_; try simp only [go_sem, if_le_pos, Int.reduceToNat, Nat.reduceMul, Nat.reduceAdd, Nat.reduceLeDiff, Nat.reduceSub, Nat.reduceEqDiff])
    | (refine awp_ret ?_; try simp only [go_sem, if_le_pos, Int.reduceToNat, Nat.reduceMul, Nat.reduceAdd, Nat.reduceLeDiff, Nat.reduceSub, Nat.reduceEqDiff])
    | (refine vAlloc_intro (by simp only [go_sem, if_le_pos]) fun b hb => ?_; (try simp only [Hp.put_none] at hb); simp (disch := first | omega | (apply Hp.ne_of <;> assumption) | fail) only [go_sem, if_le_pos, wrap_in, cutOff_lt, Hp.put_ne, Int.reduceToNat, Nat.reduceMul, Nat.reduceAdd, Nat.reduceLeDiff, Nat.reduceSub, Nat.reduceEqDiff])
    | (refine vBox_intro (by simp only [go_sem, if_le_pos]) fun b hb => ?_; (try simp only [Hp.put_none] at hb); simp (disch := first | omega | (apply Hp.ne_of <;> assumption) | fail) only [go_sem, if_le_pos, wrap_in, cutOff_lt, Hp.put_ne, Int.reduceToNat, Nat.reduceMul, Nat.reduceAdd, Nat.reduceLeDiff, Nat.reduceSub, Nat.reduceEqDiff])
    | (refine ap_intro ?_; simp (disch := first | omega | (apply Hp.ne_of <;> assumption) | fail) only [go_sem, if_le_pos, wrap_in, cutOff_lt, Hp.put_ne, Int.reduceToNat, Nat.reduceMul, Nat.reduceAdd, Nat.reduceLeDiff, Nat.reduceSub, Nat.reduceEqDiff])
    | (refine And.intro (by first | omega | (simp +contextual; done) | (simp +contextual; intros; omega)) ?_)
    | (refine ⟨_, vcall_raw cb_14 (timesI_c (KP.put hG hGy) (by omega)), ?_⟩; try (simp (disch := first | omega | (apply Hp.ne_of <;> assumption) | fail) only [go_sem, if_le_pos, wrap_in, cutOff_lt, Hp.put_ne, Int.reduceToNat, Nat.reduceMul, Nat.reduceAdd, Nat.reduceLeDiff, Nat.reduceSub, Nat.reduceEqDiff]))
    | (refine ⟨_, vcall_raw cb_13 (rints_c _ _ _ (by simp; omega) (by simp; omega)), ?_⟩; try (simp (disch := first | omega | (apply Hp.ne_of <;> assumption) | fail) only [go_sem, if_le_pos, wrap_in, cutOff_lt, Hp.put_ne, Int.reduceToNat, Nat.reduceMul, Nat.reduceAdd, Nat.reduceLeDiff, Nat.reduceSub, Nat.reduceEqDiff]))
    | (clear hK K))
    refine hKr _ _ (next_mk (i + 1) ⟨by omega, by omega, G, L, hG, hGy, rfl, hri, hlm, by omega⟩ (by (try simp only); omega) (by (simp only [go_sem, LLe, Nat.reduceAdd, AV.raw.injEq, Value.int.injEq, Value.slice.injEq, Value.pointer.injEq]; try omega)))
  · refine pretw (.inr rfl) rfl ?_; simp only [go_sem]
    exact RLe.drop _ (hK1.sub.put _ hyH)
end Go.Proofs.Ytemapkbfpkdddaa

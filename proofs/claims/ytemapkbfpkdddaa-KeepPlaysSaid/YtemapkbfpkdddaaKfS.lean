/- New and Put of what is kept. No conditions. -/
import Derived.Test.YtemapkbfpkdddaaKeS
import Derived.Test.YtemapkbfpkdddaaKeQ
set_option linter.all false
namespace Go.Proofs.Ytemapkbfpkdddaa
open Go Go.Fc
abbrev KPS (B H : Hp) (kb : Nat) (most : Int) (L : List GThingS) : Prop := KP B H 58 60 2 kb most (L.map eGThingS)
theorem if_le_pos {α : Type} {a b : Nat} {x y : α} (h : a ≤ b) : (if a ≤ b then x else y) = x := if_pos h
theorem set1S (x : ByteArray) : ∀ (L : List GThingS) (i : Nat), i < L.length → splice (L.map eGThingS).flatten (i * 2 + 1) [.raw (.string x)] = ((L.set i ⟨(nth L i).at_, x⟩).map eGThingS).flatten
  | [], i, h => by simp at h
  | y :: L, 0, _ => by simp [splice, eGThingS, nth]
  | y :: L, i + 1, h => by
    have ih := set1S x L i (by simpa using h)
    have e : (i + 1) * 2 + 1 = (i * 2 + 1) + 1 + 1 := by omega
    have hn : nth (y :: L) (i + 1) = nth L i := by simp [nth]
    rw [e, hn]
    simp only [splice, List.map_cons, List.flatten_cons, List.set_cons_succ] at ih ⊢
    rw [← ih]
    simp [eGThingS]
theorem insertS_any {B H : Hp} {a : AV} {i : Nat} {f : Nat → List AV} {css : List (List AV)} (ha : Own B H 60 2 a css) (hf : (f 0).length = 2 ∧ ones (f 0) = true) (hi : i ≤ css.length) (hl : css.length ≤ 1000000) :
    ACalls Try.prog 24 [a, .raw (.int .i64 i), .sl true 2 1 f] H (fun r H' => Own B H' 60 2 r (css.take i ++ [f 0] ++ css.drop i) ∧ ∀ c r, H c = some r → ¬ ownsB a c → H' c = some r) := by
  rcases ha.2.2 with ⟨rfl, hform⟩ | ⟨b, c, rfl, hc, hB, hb⟩
  · obtain rfl : i = 0 := by simpa using hi
    exact insertS_nil ha hf hform
  · refine (insertS_raw rfl ha hc hB hb hf hi hl).mono ?_
    rintro r H' ⟨h1, h2⟩
    refine ⟨h1, fun c' r' h3 h4 => h2 c' r' h3 ?_⟩
    rintro rfl
    exact h4 ⟨_, _, rfl⟩
set_option maxHeartbeats 400000 in
set_option maxRecDepth 10000 in
theorem newS_c (m : Int) (H : Hp) : ACalls Try.prog 15 [.raw (.int .i64 m)] H (fun r H' => ∃ kb, r = ptrAt kb ∧ KPS H H' kb (if m < 1 then 1 else m) []) := by
  refine acalls_enter Try.func15 rfl (by simp only [Try.ntmps15, List.length_cons, List.length_nil, Nat.reduceAdd, Nat.reduceSub, List.replicate, List.cons_append, List.nil_append]; rfl) ?_
  repeat' (first
    | refine awp_seq_k fun K hK => ?_
    | (refine awp_region_vcl ?_; simp (disch := omega) only [go_sem, wrap_in, cutOff_lt, Hp.put_ne, Int.reduceToNat, Nat.reduceMul, Nat.reduceAdd, Nat.reduceLeDiff, Nat.reduceSub, Nat.reduceEqDiff])
    | (refine hK _ _ ?_; clear hK K)
    | refine awp_block ?_
    | (refine awp_cond rfl (fun hc => ?_) (fun hc => ?_) <;> (try contradiction) <;> (try simp only [Bool.and_eq_true, Bool.or_eq_true, Bool.and_eq_false_iff, Bool.or_eq_false_iff, decide_eq_true_eq, decide_eq_false_iff_not, Bool.not_eq_true', Bool.not_eq_false', Int.not_lt, Int.not_le] at hc))
    | (refine awp_skip ?_; try simp only [go_sem])
    | (refine awp_exit ?_; try simp only [go_sem, Int.reduceToNat, Nat.reduceMul, Nat.reduceAdd, Nat.reduceLeDiff, Nat.reduceSub, Nat.reduceEqDiff])
    | (refine awp_ret ?_; try simp only [go_sem, Int.reduceToNat, Nat.reduceMul, Nat.reduceAdd, Nat.reduceLeDiff, Nat.reduceSub, Nat.reduceEqDiff])
    | (refine vAlloc_intro (by simp only [go_sem]) fun b hb => ?_; (try simp only [Hp.put_none] at hb); simp (disch := omega) only [go_sem, wrap_in, cutOff_lt, Hp.put_ne, Int.reduceToNat, Nat.reduceMul, Nat.reduceAdd, Nat.reduceLeDiff, Nat.reduceSub, Nat.reduceEqDiff])
    | (refine vBox_intro (by simp only [go_sem]) fun b hb => ?_; (try simp only [Hp.put_none] at hb); simp (disch := omega) only [go_sem, wrap_in, cutOff_lt, Hp.put_ne, Int.reduceToNat, Nat.reduceMul, Nat.reduceAdd, Nat.reduceLeDiff, Nat.reduceSub, Nat.reduceEqDiff])
    | (refine ap_intro ?_; simp (disch := omega) only [go_sem, wrap_in, cutOff_lt, Hp.put_ne, Int.reduceToNat, Nat.reduceMul, Nat.reduceAdd, Nat.reduceLeDiff, Nat.reduceSub, Nat.reduceEqDiff])
    | (refine And.intro (by first | omega | (simp +contextual; done) | (simp +contextual; intros; omega)) ?_)
    | (clear hK K))
  refine ret_mk (.inr rfl) rfl _ _ (RLe.refl _ _) ?_; simp only [go_sem]
  refine ⟨b, rfl, hb, _, Hp.put_same _ _ _, Own.nil ((Hp.Sub.refl _).put _ hb) _ _⟩
set_option maxHeartbeats 800000 in
set_option maxRecDepth 10000 in
theorem putS_c {B H : Hp} {kb : Nat} {m t : Int} {x : ByteArray} {L : List GThingS} (h : KPS B H kb m L) (hL : RiseK GThingS.at_ L) (hl : L.length ≤ 500) (hm : 1 ≤ m) : ACalls Try.prog 16 [ptrAt kb, .raw (.int .i64 t), .raw (.string x)] H (fun r H' => r = .tup [] ∧ KPS B H' kb m (putK GThingS.at_ m L ⟨t, x⟩)) := by
  have hv := KP.vto h
  obtain ⟨hkB, v, hk, hO⟩ := h
  have hfl := fnd_le (key := GThingS.at_) L t
  cases hh : hasK GThingS.at_ L t with
  | true =>
    obtain ⟨hf1, hf2⟩ := fnd_lt_has hh
    rcases hO.form with ⟨h0, _⟩ | ⟨sb, c, rfl, hc2, hsB, hsb⟩
    · have : L = [] := by simpa using h0
      subst this
      simp at hf1
    · rw [List.length_map] at hc2
      have hne : kb ≠ sb := by rintro rfl; rw [hk] at hsb; cases hsb
      refine acalls_enter Try.func16 rfl (by simp only [Try.ntmps16, List.length_cons, List.length_nil, Nat.reduceAdd, Nat.reduceSub, List.replicate, List.cons_append, List.nil_append]; rfl) ?_
      repeat' (first
    | refine awp_seq_k fun K hK => ?_
    | (refine awp_region_vcl ?_; simp (disch := first | omega | (apply Hp.ne_of <;> assumption) | fail) only [go_sem, hk, hsb, hh, if_le_pos, List.length_map, wrap_in, cutOff_lt, Hp.put_ne, Int.reduceToNat, Nat.reduceMul, Nat.reduceAdd, Nat.reduceLeDiff, Nat.reduceSub, Nat.reduceEqDiff])
    | (refine awp_region_eff (id := 4) [0, 1, 2, 3, 4, 5, 6, 7, 8, 9] mixed (by decide +kernel) ?_; simp only [List.map_cons, List.map_nil, atO, List.getD_cons_zero, List.getD_cons_succ]; simp (disch := first | omega | (apply Hp.ne_of <;> assumption) | fail) only [go_sem, hk, hsb, hh, if_le_pos, List.length_map, wrap_in, cutOff_lt, Hp.put_ne, Int.reduceToNat, Nat.reduceMul, Nat.reduceAdd, Nat.reduceLeDiff, Nat.reduceSub, Nat.reduceEqDiff])
    | (refine hK _ _ ?_; clear hK K)
    | refine awp_block ?_
    | (refine awp_cond rfl (fun hc => ?_) (fun hc => ?_) <;> (try contradiction) <;> (try simp only [Bool.and_eq_true, Bool.or_eq_true, Bool.and_eq_false_iff, Bool.or_eq_false_iff, decide_eq_true_eq, decide_eq_false_iff_not, Bool.not_eq_true', Bool.not_eq_false', Int.not_lt, Int.not_le] at hc))
    | (refine awp_skip ?_; try simp only [go_sem, hk, hsb, hh, if_le_pos, List.length_map])
    | (refine awp_exit ?_; try simp only [go_sem, hk, hsb, hh, if_le_pos, List.length_map, Int.reduceToNat, Nat.reduceMul, Nat.reduceAdd, Nat.reduceLeDiff, Nat.reduceSub, Nat.reduceEqDiff])
    | (refine awp_ret ?_; try simp only [go_sem, hk, hsb, hh, if_le_pos, List.length_map, Int.reduceToNat, Nat.reduceMul, Nat.reduceAdd, Nat.reduceLeDiff, Nat.reduceSub, Nat.reduceEqDiff])
    | (refine vAlloc_intro (by simp only [go_sem, hk, hsb, hh, if_le_pos, List.length_map]) fun b hb => ?_; (try simp only [Hp.put_none] at hb); simp (disch := first | omega | (apply Hp.ne_of <;> assumption) | fail) only [go_sem, hk, hsb, hh, if_le_pos, List.length_map, wrap_in, cutOff_lt, Hp.put_ne, Int.reduceToNat, Nat.reduceMul, Nat.reduceAdd, Nat.reduceLeDiff, Nat.reduceSub, Nat.reduceEqDiff])
    | (refine vBox_intro (by simp only [go_sem, hk, hsb, hh, if_le_pos, List.length_map]) fun b hb => ?_; (try simp only [Hp.put_none] at hb); simp (disch := first | omega | (apply Hp.ne_of <;> assumption) | fail) only [go_sem, hk, hsb, hh, if_le_pos, List.length_map, wrap_in, cutOff_lt, Hp.put_ne, Int.reduceToNat, Nat.reduceMul, Nat.reduceAdd, Nat.reduceLeDiff, Nat.reduceSub, Nat.reduceEqDiff])
    | (refine ap_intro ?_; simp (disch := first | omega | (apply Hp.ne_of <;> assumption) | fail) only [go_sem, hk, hsb, hh, if_le_pos, List.length_map, wrap_in, cutOff_lt, Hp.put_ne, Int.reduceToNat, Nat.reduceMul, Nat.reduceAdd, Nat.reduceLeDiff, Nat.reduceSub, Nat.reduceEqDiff])
    | (refine And.intro (by first | omega | (simp +contextual; done) | (simp +contextual; intros; omega)) ?_)
    | (refine vcall_raw cb_23 (pcall_of (pcall_lift (findS_c L m t H0 hL (by omega)) rfl ⟨hv, VTo.refl _ _, trivial⟩) ?_); rw [hh])
    | (clear hK K))
      refine ret_mk (.inr rfl) rfl _ _ (RLe.refl _ _) ?_; simp only [go_sem]
      refine ⟨hkB, _, by rw [Hp.put_ne _ _ hne]; exact hk, put_own hO.1 hsB _, fun y hy => ?_, .inr ⟨sb, c, ?_, ?_, hsB, ?_⟩⟩
      · obtain ⟨y, _, rfl⟩ := List.mem_map.1 hy; exact eGThingS_ok y
      · simp [putK, hh]
      · simpa [putK, hh] using hc2
      · have e := set1S x L (fnd GThingS.at_ L t) hf1
        rw [hf2] at e
        rw [Hp.put_same]
        simp only [putK, hh, if_true]
        rw [← e]
        rfl
  | false =>
    have hil := insK_len (key := GThingS.at_) L ⟨t, x⟩
    have hmap : (L.map eGThingS).take (fnd GThingS.at_ L t) ++ [eGThingS ⟨t, x⟩] ++ (L.map eGThingS).drop (fnd GThingS.at_ L t) = (insK GThingS.at_ L ⟨t, x⟩).map eGThingS := by
      simp [insK, List.map_take, List.map_drop]
    have hput : putK GThingS.at_ m L ⟨t, x⟩ = cutK GThingS.at_ m (insK GThingS.at_ L ⟨t, x⟩) := by simp [putK, hh]
    rw [hput]
    refine acalls_enter Try.func16 rfl (by simp only [Try.ntmps16, List.length_cons, List.length_nil, Nat.reduceAdd, Nat.reduceSub, List.replicate, List.cons_append, List.nil_append]; rfl) ?_
    repeat' (first
    | refine awp_seq_k fun K hK => ?_
    | (refine awp_region_vcl ?_; simp (disch := first | omega | (apply Hp.ne_of <;> assumption) | fail) only [go_sem, hk, if_le_pos, wrap_in, cutOff_lt, Hp.put_ne, Int.reduceToNat, Nat.reduceMul, Nat.reduceAdd, Nat.reduceLeDiff, Nat.reduceSub, Nat.reduceEqDiff])
    | (refine awp_region_eff (id := 4) [0, 1, 2, 3, 4, 5, 6, 7, 8, 9] mixed (by decide +kernel) ?_; simp only [List.map_cons, List.map_nil, atO, List.getD_cons_zero, List.getD_cons_succ]; simp (disch := first | omega | (apply Hp.ne_of <;> assumption) | fail) only [go_sem, hk, if_le_pos, wrap_in, cutOff_lt, Hp.put_ne, Int.reduceToNat, Nat.reduceMul, Nat.reduceAdd, Nat.reduceLeDiff, Nat.reduceSub, Nat.reduceEqDiff])
    | (refine hK _ _ ?_; clear hK K)
    | refine awp_block ?_
    | (refine awp_cond rfl (fun hc => ?_) (fun hc => ?_) <;> (try contradiction) <;> (try simp only [Bool.and_eq_true, Bool.or_eq_true, Bool.and_eq_false_iff, Bool.or_eq_false_iff, decide_eq_true_eq, decide_eq_false_iff_not, Bool.not_eq_true', Bool.not_eq_false', Int.not_lt, Int.not_le] at hc))
    | (refine awp_skip ?_; try simp only [go_sem, hk, if_le_pos])
    | (refine awp_exit ?_; try simp only [go_sem, hk, if_le_pos, Int.reduceToNat, Nat.reduceMul, Nat.reduceAdd, Nat.reduceLeDiff, Nat.reduceSub, Nat.reduceEqDiff])
    | (refine awp_ret ?_; try simp only [go_sem, hk, if_le_pos, Int.reduceToNat, Nat.reduceMul, Nat.reduceAdd, Nat.reduceLeDiff, Nat.reduceSub, Nat.reduceEqDiff])
    | (refine vAlloc_intro (by simp only [go_sem, hk, if_le_pos]) fun b hb => ?_; (try simp only [Hp.put_none] at hb); simp (disch := first | omega | (apply Hp.ne_of <;> assumption) | fail) only [go_sem, hk, if_le_pos, wrap_in, cutOff_lt, Hp.put_ne, Int.reduceToNat, Nat.reduceMul, Nat.reduceAdd, Nat.reduceLeDiff, Nat.reduceSub, Nat.reduceEqDiff])
    | (refine vBox_intro (by simp only [go_sem, hk, if_le_pos]) fun b hb => ?_; (try simp only [Hp.put_none] at hb); simp (disch := first | omega | (apply Hp.ne_of <;> assumption) | fail) only [go_sem, hk, if_le_pos, wrap_in, cutOff_lt, Hp.put_ne, Int.reduceToNat, Nat.reduceMul, Nat.reduceAdd, Nat.reduceLeDiff, Nat.reduceSub, Nat.reduceEqDiff])
    | (refine ap_intro ?_; simp (disch := first | omega | (apply Hp.ne_of <;> assumption) | fail) only [go_sem, hk, if_le_pos, wrap_in, cutOff_lt, Hp.put_ne, Int.reduceToNat, Nat.reduceMul, Nat.reduceAdd, Nat.reduceLeDiff, Nat.reduceSub, Nat.reduceEqDiff])
    | (refine And.intro (by first | omega | (simp +contextual; done) | (simp +contextual; intros; omega)) ?_)
    | (refine vcall_raw cb_23 (pcall_of (pcall_lift (findS_c L m t H0 hL (by omega)) rfl ⟨hv, VTo.refl _ _, trivial⟩) ?_); rw [hh])
    | (clear hK K))
    refine vcall_raw cb_24 ((insertS_any (i := fnd GThingS.at_ L t) (f := fun i => [eGThingS ⟨t, x⟩].getD i []) hO (eGThingS_ok _) (by simpa using hfl) (by simp; omega)).mono ?_)
    rintro r H1 ⟨hO1, hkeep⟩
    have hk1 := hkeep _ _ hk (own_other hO hk (show (58 : Nat) ≠ 60 by decide))
    simp only [List.getD_cons_zero] at hO1
    rw [hmap] at hO1
    obtain ⟨v1, rfl⟩ := hO1.raw (fun e => by have := congrArg List.length e; simp [hil] at this)
    rcases hO1.form with ⟨h0, _⟩ | ⟨sb, c, rfl, hc2, hsB, hsb⟩
    · have := congrArg List.length h0; simp [hil] at this
    rw [List.length_map] at hc2
    generalize hM : insK GThingS.at_ L ⟨t, x⟩ = M at *
    have hKP := KP.mk (most := m) (tk := 58) hO1 hkB hk1 rfl (by decide)
    have hv1 := KP.vto hKP
    simp only [List.length_map] at hKP hv1 hO1
    repeat' (first
    | refine awp_seq_k fun K hK => ?_
    | (refine awp_region_vcl ?_; simp (disch := first | omega | (apply Hp.ne_of <;> assumption) | fail) only [go_sem, hk1, if_le_pos, List.length_map, wrap_in, cutOff_lt, Hp.put_ne, Int.reduceToNat, Nat.reduceMul, Nat.reduceAdd, Nat.reduceLeDiff, Nat.reduceSub, Nat.reduceEqDiff])
    | (refine awp_region_eff (id := 4) [0, 1, 2, 3, 4, 5, 6, 7, 8, 9] mixed (by decide +kernel) ?_; simp only [List.map_cons, List.map_nil, atO, List.getD_cons_zero, List.getD_cons_succ]; simp (disch := first | omega | (apply Hp.ne_of <;> assumption) | fail) only [go_sem, hk1, if_le_pos, List.length_map, wrap_in, cutOff_lt, Hp.put_ne, Int.reduceToNat, Nat.reduceMul, Nat.reduceAdd, Nat.reduceLeDiff, Nat.reduceSub, Nat.reduceEqDiff])
    | (refine hK _ _ ?_; clear hK K)
    | refine awp_block ?_
    | (refine awp_cond rfl (fun hc => ?_) (fun hc => ?_) <;> (try contradiction) <;> (try simp only [Bool.and_eq_true, Bool.or_eq_true, Bool.and_eq_false_iff, Bool.or_eq_false_iff, decide_eq_true_eq, decide_eq_false_iff_not, Bool.not_eq_true', Bool.not_eq_false', Int.not_lt, Int.not_le] at hc))
    | (refine awp_skip ?_; try simp only [go_sem, hk1, if_le_pos, List.length_map])
    | (refine awp_exit ?_; try simp only [go_sem, hk1, if_le_pos, List.length_map, Int.reduceToNat, Nat.reduceMul, Nat.reduceAdd, Nat.reduceLeDiff, Nat.reduceSub, Nat.reduceEqDiff])
    | (refine awp_ret ?_; try simp only [go_sem, hk1, if_le_pos, List.length_map, Int.reduceToNat, Nat.reduceMul, Nat.reduceAdd, Nat.reduceLeDiff, Nat.reduceSub, Nat.reduceEqDiff])
    | (refine vAlloc_intro (by simp only [go_sem, hk1, if_le_pos, List.length_map]) fun b hb => ?_; (try simp only [Hp.put_none] at hb); simp (disch := first | omega | (apply Hp.ne_of <;> assumption) | fail) only [go_sem, hk1, if_le_pos, List.length_map, wrap_in, cutOff_lt, Hp.put_ne, Int.reduceToNat, Nat.reduceMul, Nat.reduceAdd, Nat.reduceLeDiff, Nat.reduceSub, Nat.reduceEqDiff])
    | (refine vBox_intro (by simp only [go_sem, hk1, if_le_pos, List.length_map]) fun b hb => ?_; (try simp only [Hp.put_none] at hb); simp (disch := first | omega | (apply Hp.ne_of <;> assumption) | fail) only [go_sem, hk1, if_le_pos, List.length_map, wrap_in, cutOff_lt, Hp.put_ne, Int.reduceToNat, Nat.reduceMul, Nat.reduceAdd, Nat.reduceLeDiff, Nat.reduceSub, Nat.reduceEqDiff])
    | (refine ap_intro ?_; simp (disch := first | omega | (apply Hp.ne_of <;> assumption) | fail) only [go_sem, hk1, if_le_pos, List.length_map, wrap_in, cutOff_lt, Hp.put_ne, Int.reduceToNat, Nat.reduceMul, Nat.reduceAdd, Nat.reduceLeDiff, Nat.reduceSub, Nat.reduceEqDiff])
    | (refine And.intro (by first | omega | (simp +contextual; done) | (simp +contextual; intros; omega)) ?_)
    | (clear hK K))
    · have hk2 : (H1.put kb ⟨58, [.raw (.int .i64 m), .raw (.slice (some ⟨sb, 0, none⟩) M.length c)], 2⟩) kb = some ⟨58, [.raw (.int .i64 m), .raw (.slice (some ⟨sb, 0, none⟩) M.length c)], 2⟩ := Hp.put_same _ _ _
      generalize H1.put kb ⟨58, [.raw (.int .i64 m), .raw (.slice (some ⟨sb, 0, none⟩) M.length c)], 2⟩ = H2 at *
      have hO2 := hKP.own hk2
      have hnk := nearK_le (key := GThingS.at_) M (by omega)
      refine vcall_raw cb_25 (pcall_of (pcall_lift (nearS_c M m H0 (by omega) (by omega)) rfl ⟨hv1, trivial⟩) ?_)
      repeat' (first
    | refine awp_seq_k fun K hK => ?_
    | (refine awp_region_vcl ?_; simp (disch := first | omega | (apply Hp.ne_of <;> assumption) | fail) only [go_sem, hk2, if_le_pos, wrap_in, cutOff_lt, Hp.put_ne, Int.reduceToNat, Nat.reduceMul, Nat.reduceAdd, Nat.reduceLeDiff, Nat.reduceSub, Nat.reduceEqDiff])
    | (refine awp_region_eff (id := 4) [0, 1, 2, 3, 4, 5, 6, 7, 8, 9] mixed (by decide +kernel) ?_; simp only [List.map_cons, List.map_nil, atO, List.getD_cons_zero, List.getD_cons_succ]; simp (disch := first | omega | (apply Hp.ne_of <;> assumption) | fail) only [go_sem, hk2, if_le_pos, wrap_in, cutOff_lt, Hp.put_ne, Int.reduceToNat, Nat.reduceMul, Nat.reduceAdd, Nat.reduceLeDiff, Nat.reduceSub, Nat.reduceEqDiff])
    | (refine hK _ _ ?_; clear hK K)
    | refine awp_block ?_
    | (refine awp_cond rfl (fun hc => ?_) (fun hc => ?_) <;> (try contradiction) <;> (try simp only [Bool.and_eq_true, Bool.or_eq_true, Bool.and_eq_false_iff, Bool.or_eq_false_iff, decide_eq_true_eq, decide_eq_false_iff_not, Bool.not_eq_true', Bool.not_eq_false', Int.not_lt, Int.not_le] at hc))
    | (refine awp_skip ?_; try simp only [go_sem, hk2, if_le_pos])
    | (refine awp_exit ?_; try simp only [go_sem, hk2, if_le_pos, Int.reduceToNat, Nat.reduceMul, Nat.reduceAdd, Nat.reduceLeDiff, Nat.reduceSub, Nat.reduceEqDiff])
    | (refine awp_ret ?_; try simp only [go_sem, hk2, if_le_pos, Int.reduceToNat, Nat.reduceMul, Nat.reduceAdd, Nat.reduceLeDiff, Nat.reduceSub, Nat.reduceEqDiff])
    | (refine vAlloc_intro (by simp only [go_sem, hk2, if_le_pos]) fun b hb => ?_; (try simp only [Hp.put_none] at hb); simp (disch := first | omega | (apply Hp.ne_of <;> assumption) | fail) only [go_sem, hk2, if_le_pos, wrap_in, cutOff_lt, Hp.put_ne, Int.reduceToNat, Nat.reduceMul, Nat.reduceAdd, Nat.reduceLeDiff, Nat.reduceSub, Nat.reduceEqDiff])
    | (refine vBox_intro (by simp only [go_sem, hk2, if_le_pos]) fun b hb => ?_; (try simp only [Hp.put_none] at hb); simp (disch := first | omega | (apply Hp.ne_of <;> assumption) | fail) only [go_sem, hk2, if_le_pos, wrap_in, cutOff_lt, Hp.put_ne, Int.reduceToNat, Nat.reduceMul, Nat.reduceAdd, Nat.reduceLeDiff, Nat.reduceSub, Nat.reduceEqDiff])
    | (refine ap_intro ?_; simp (disch := first | omega | (apply Hp.ne_of <;> assumption) | fail) only [go_sem, hk2, if_le_pos, wrap_in, cutOff_lt, Hp.put_ne, Int.reduceToNat, Nat.reduceMul, Nat.reduceAdd, Nat.reduceLeDiff, Nat.reduceSub, Nat.reduceEqDiff])
    | (refine And.intro (by first | omega | (simp +contextual; done) | (simp +contextual; intros; omega)) ?_)
    | (clear hK K))
      refine vcall_raw cb_26 ((deleteS_c (i := nearK GThingS.at_ M) (j := nearK GThingS.at_ M + 1) hO2 (by omega) (by simp; omega) (by simp; omega)).mono ?_)
      rintro r H3 ⟨⟨v3, rfl⟩, hO3, hkeep3⟩
      have hk3 := hkeep3 _ _ hk2 (own_other hO2 hk2 (show (58 : Nat) ≠ 60 by decide))
      have := KP.mk (most := m) (tk := 58) hO3 hkB hk3 rfl (by decide)
      have e : cutK GThingS.at_ m M = M.take (nearK GThingS.at_ M) ++ M.drop (nearK GThingS.at_ M + 1) := by rw [cutK, if_pos (by omega)]
      rw [e]
      simp only [← List.map_take, ← List.map_drop, ← List.map_append] at this
      rcases hO3.form with ⟨_, rfl⟩ | ⟨sb3, c3, rfl, _⟩
      all_goals
        repeat' (first
    | refine awp_seq_k fun K hK => ?_
    | (refine awp_region_vcl ?_; simp (disch := first | omega | (apply Hp.ne_of <;> assumption) | fail) only [go_sem, hk3, if_le_pos, wrap_in, cutOff_lt, Hp.put_ne, Int.reduceToNat, Nat.reduceMul, Nat.reduceAdd, Nat.reduceLeDiff, Nat.reduceSub, Nat.reduceEqDiff])
    | (refine awp_region_eff (id := 4) [0, 1, 2, 3, 4, 5, 6, 7, 8, 9] mixed (by decide +kernel) ?_; simp only [List.map_cons, List.map_nil, atO, List.getD_cons_zero, List.getD_cons_succ]; simp (disch := first | omega | (apply Hp.ne_of <;> assumption) | fail) only [go_sem, hk3, if_le_pos, wrap_in, cutOff_lt, Hp.put_ne, Int.reduceToNat, Nat.reduceMul, Nat.reduceAdd, Nat.reduceLeDiff, Nat.reduceSub, Nat.reduceEqDiff])
    | (refine hK _ _ ?_; clear hK K)
    | refine awp_block ?_
    | (refine awp_cond rfl (fun hc => ?_) (fun hc => ?_) <;> (try contradiction) <;> (try simp only [Bool.and_eq_true, Bool.or_eq_true, Bool.and_eq_false_iff, Bool.or_eq_false_iff, decide_eq_true_eq, decide_eq_false_iff_not, Bool.not_eq_true', Bool.not_eq_false', Int.not_lt, Int.not_le] at hc))
    | (refine awp_skip ?_; try simp only [go_sem, hk3, if_le_pos])
    | (refine awp_exit ?_; try simp only [go_sem, hk3, if_le_pos, Int.reduceToNat, Nat.reduceMul, Nat.reduceAdd, Nat.reduceLeDiff, Nat.reduceSub, Nat.reduceEqDiff])
    | (refine awp_ret ?_; try simp only [go_sem, hk3, if_le_pos, Int.reduceToNat, Nat.reduceMul, Nat.reduceAdd, Nat.reduceLeDiff, Nat.reduceSub, Nat.reduceEqDiff])
    | (refine vAlloc_intro (by simp only [go_sem, hk3, if_le_pos]) fun b hb => ?_; (try simp only [Hp.put_none] at hb); simp (disch := first | omega | (apply Hp.ne_of <;> assumption) | fail) only [go_sem, hk3, if_le_pos, wrap_in, cutOff_lt, Hp.put_ne, Int.reduceToNat, Nat.reduceMul, Nat.reduceAdd, Nat.reduceLeDiff, Nat.reduceSub, Nat.reduceEqDiff])
    | (refine vBox_intro (by simp only [go_sem, hk3, if_le_pos]) fun b hb => ?_; (try simp only [Hp.put_none] at hb); simp (disch := first | omega | (apply Hp.ne_of <;> assumption) | fail) only [go_sem, hk3, if_le_pos, wrap_in, cutOff_lt, Hp.put_ne, Int.reduceToNat, Nat.reduceMul, Nat.reduceAdd, Nat.reduceLeDiff, Nat.reduceSub, Nat.reduceEqDiff])
    | (refine ap_intro ?_; simp (disch := first | omega | (apply Hp.ne_of <;> assumption) | fail) only [go_sem, hk3, if_le_pos, wrap_in, cutOff_lt, Hp.put_ne, Int.reduceToNat, Nat.reduceMul, Nat.reduceAdd, Nat.reduceLeDiff, Nat.reduceSub, Nat.reduceEqDiff])
    | (refine And.intro (by first | omega | (simp +contextual; done) | (simp +contextual; intros; omega)) ?_)
    | (clear hK K))
        refine ret_mk (.inl rfl) rfl _ _ (RLe.refl _ _) ?_
        exact ⟨rfl, this⟩
    · refine ret_mk (.inl rfl) rfl _ _ (RLe.refl _ _) ?_
      refine ⟨rfl, ?_⟩
      rw [cutK, if_neg (by omega)]
      exact hKP
end Go.Proofs.Ytemapkbfpkdddaa

/- The document's New and Drop of what is kept. No conditions. -/
import Derived.Test.YtemapkbfpkdddaaKr
import Derived.Test.YtemapkbfpkdddaaKeU
import Derived.Test.YtemapkbfpkdddaaKeW
set_option linter.all false
namespace Go.Proofs.Ytemapkbfpkdddaa
open Go Go.Fc
theorem map_get {l : List Int} {f : Int → List AV} {i : Nat} (h : i < l.length) : (l.map f).getD i [] = f (nth l i) := by simp [nth, h]
theorem src_ints {H : Hp} {b : Bool} {l : List Int} {n k : Nat} (hn : n = k) (hk : k ≤ l.length) : Src H 1 (.sl b 1 n fun i => [.raw (.int .i64 (nth l i))]) ((l.take k).map fun n : Int => [.raw (.int .i64 n)]) := by
  subst hn
  exact src_sl (by simp; omega) (fun i hi => by simp [nth, hi, show i < l.length by omega]) fun i hi => ⟨rfl, rfl⟩
/-- The document's thing as one block. -/
def rowY (m : Int) (L : List GThingI) : Row := ⟨38, [.raw (.int .i64 m), ints (L.map GThingI.at_), ints (L.map GThingI.it)], 3⟩
set_option maxHeartbeats 400000 in
set_option maxRecDepth 10000 in
theorem rdrop_c {B : Hp} {yb : Nat} {m t : Int} {L : List GThingI} (hB : B yb = none) (hL : RiseK GThingI.at_ L) (hl : L.length ≤ 500) : ACalls Try.prog 12 [ptrAt yb, .raw (.int .i64 t)] (B.put yb (rowY m L)) (fun r H' => r = .tup [] ∧ H' = B.put yb (rowY m (dropK GThingI.at_ L t))) := by
  have hbl := bestK_le (key := GThingI.at_) L t
  have hy : (B.put yb (rowY m L)) yb = some ⟨38, [.raw (.int .i64 m), ints (L.map GThingI.at_), ints (L.map GThingI.it)], 3⟩ := Hp.put_same _ _ _
  generalize hH : B.put yb (rowY m L) = H at *
  refine acalls_enter Try.func12 rfl (by simp only [Try.ntmps12, List.length_cons, List.length_nil, Nat.reduceAdd, Nat.reduceSub, List.replicate, List.cons_append, List.nil_append]; rfl) ?_
  repeat' (first
    | refine awp_seq_k fun K hK => ?_
    | (refine awp_region_vcl ?_; simp (disch := omega) only [go_sem, wrap_in, cutOff_lt, Hp.put_ne, Int.reduceToNat, Nat.reduceMul, Nat.reduceAdd, Nat.reduceLeDiff, Nat.reduceSub, Nat.reduceEqDiff])
    | (refine hK _ _ ?_; clear hK K)
    | refine awp_block ?_
    | (refine awp_cond rfl (fun hc => ?_) (fun hc => ?_) <;> (try contradiction) <;> (try simp only [Bool.and_eq_true, Bool.or_eq_true, Bool.and_eq_false_iff, Bool.or_eq_false_iff, decide_eq_true_eq, decide_eq_false_iff_not, Bool.not_eq_true', Bool.not_eq_false', Int.not_lt, Int.not_le] at hc))
    | (refine awp_skip ?_; try simp only [go_sem])
    | (refine awp_exit ?_; try simp only [go_sem, Int.reduceToNat, Nat.reduceMul, Nat.reduceAdd, Nat.reduceLeDiff, Nat.reduceSub, Nat.reduceEqDiff])
    | (refine awp_ret ?_; try simp only [go_sem, Int.reduceToNat, Nat.reduceMul, Nat.reduceAdd, Nat.reduceLeDiff, Nat.reduceSub, Nat.reduceEqDiff])
    | (refine vAlloc_intro (by simp only [go_sem]) fun b hb => ?_; (try simp only [Hp.put_none] at hb); simp (disch := omega) only [go_sem, wrap_in, cutOff_lt, Hp.put_ne, Int.reduceToNat, Nat.reduceMul, Nat.reduceAdd, Nat.reduceLeDiff, Nat.reduceSub, Nat.reduceEqDiff])
    | (refine vBox_intro (by simp only [go_sem]) fun b hb => ?_; (try simp only [Hp.put_none] at hb); simp (disch := omega) only [go_sem, wrap_in, cutOff_lt, Hp.put_ne, Int.reduceToNat, Nat.reduceMul, Nat.reduceAdd, Nat.reduceLeDiff, Nat.reduceSub, Nat.reduceEqDiff])
    | (refine ap_intro ?_; simp (disch := omega) only [go_sem, wrap_in, cutOff_lt, Hp.put_ne, Int.reduceToNat, Nat.reduceMul, Nat.reduceAdd, Nat.reduceLeDiff, Nat.reduceSub, Nat.reduceEqDiff])
    | (refine And.intro (by first | omega | (simp +contextual; done) | (simp +contextual; intros; omega)) ?_)
    | (clear hK K))
  have hKo := hK; clear hK
  refine awp_loop_inv (S := Nat) [(4, 1), (5, 20)] (fun n H' => H' = H ∧ n ≤ bestK GThingI.at_ L t) (fun n => [(4, .raw (.int .i64 n))]) (fun n => L.length - n) 0 ⟨rfl, by omega⟩ (by (simp only [go_sem, LLe, Nat.reduceAdd, AV.raw.injEq, Value.int.injEq, Value.slice.injEq, Value.pointer.injEq]; try omega)) ?_
  rintro n H1 ⟨rfl, hn⟩ Kr hKr
  simp (disch := first | omega | (apply Hp.ne_of <;> assumption) | fail) only [go_sem, hy, if_le_pos, wrap_in, cutOff_lt, Hp.put_ne, Int.reduceToNat, Nat.reduceMul, Nat.reduceAdd, Nat.reduceLeDiff, Nat.reduceSub, Nat.reduceEqDiff]
  repeat' (first
    | refine awp_seq_k fun K hK => ?_
    | (refine awp_region_vcl ?_; simp (disch := first | omega | (apply Hp.ne_of <;> assumption) | fail) only [go_sem, hy, if_le_pos, nth_map, List.length_map, wrap_in, cutOff_lt, Hp.put_ne, Int.reduceToNat, Nat.reduceMul, Nat.reduceAdd, Nat.reduceLeDiff, Nat.reduceSub, Nat.reduceEqDiff])
    | (refine hK _ _ ?_; clear hK K)
    | refine awp_block ?_
    | (refine awp_cond rfl (fun hc => ?_) (fun hc => ?_) <;> (try contradiction) <;> (try simp only [Bool.and_eq_true, Bool.or_eq_true, Bool.and_eq_false_iff, Bool.or_eq_false_iff, decide_eq_true_eq, decide_eq_false_iff_not, Bool.not_eq_true', Bool.not_eq_false', Int.not_lt, Int.not_le] at hc))
    | (refine awp_skip ?_; try simp only [go_sem, hy, if_le_pos, nth_map, List.length_map])
    | (refine awp_exit ?_; try simp only [go_sem, hy, if_le_pos, nth_map, List.length_map, Int.reduceToNat, Nat.reduceMul, Nat.reduceAdd, Nat.reduceLeDiff, Nat.reduceSub, Nat.reduceEqDiff])
    | (refine awp_ret ?_; try simp only [go_sem, hy, if_le_pos, nth_map, List.length_map, Int.reduceToNat, Nat.reduceMul, Nat.reduceAdd, Nat.reduceLeDiff, Nat.reduceSub, Nat.reduceEqDiff])
    | (refine vAlloc_intro (by simp only [go_sem, hy, if_le_pos, nth_map, List.length_map]) fun b hb => ?_; (try simp only [Hp.put_none] at hb); simp (disch := first | omega | (apply Hp.ne_of <;> assumption) | fail) only [go_sem, hy, if_le_pos, nth_map, List.length_map, wrap_in, cutOff_lt, Hp.put_ne, Int.reduceToNat, Nat.reduceMul, Nat.reduceAdd, Nat.reduceLeDiff, Nat.reduceSub, Nat.reduceEqDiff])
    | (refine vBox_intro (by simp only [go_sem, hy, if_le_pos, nth_map, List.length_map]) fun b hb => ?_; (try simp only [Hp.put_none] at hb); simp (disch := first | omega | (apply Hp.ne_of <;> assumption) | fail) only [go_sem, hy, if_le_pos, nth_map, List.length_map, wrap_in, cutOff_lt, Hp.put_ne, Int.reduceToNat, Nat.reduceMul, Nat.reduceAdd, Nat.reduceLeDiff, Nat.reduceSub, Nat.reduceEqDiff])
    | (refine ap_intro ?_; simp (disch := first | omega | (apply Hp.ne_of <;> assumption) | fail) only [go_sem, hy, if_le_pos, nth_map, List.length_map, wrap_in, cutOff_lt, Hp.put_ne, Int.reduceToNat, Nat.reduceMul, Nat.reduceAdd, Nat.reduceLeDiff, Nat.reduceSub, Nat.reduceEqDiff])
    | (refine And.intro (by first | omega | (simp +contextual; done) | (simp +contextual; intros; omega)) ?_)
    | (refine hKo _ _ ?_)
    | (clear hK K))
  · rw [nth_map GThingI.at_ (by omega)] at hc
    have h1 := (drop_iff hL t (p := n) (by omega)).1 hc.2
    exact hKr _ _ (next_mk (n + 1) ⟨rfl, by omega⟩ (by (try simp only); omega) (by (simp only [go_sem, LLe, Nat.reduceAdd, AV.raw.injEq, Value.int.injEq, Value.slice.injEq, Value.pointer.injEq]; try omega)))
  · have hn2 : n = bestK GThingI.at_ L t := by
      rcases Nat.lt_or_ge n (bestK GThingI.at_ L t) with h | h
      · have h1 := (drop_iff hL t (p := n) (by omega)).2 h
        rcases hc with hc | hc
        · omega
        · rw [nth_map GThingI.at_ (by omega)] at hc; omega
      · omega
    have hBs : B.Sub H1 := by rw [← hH]; exact put_own (Hp.Sub.refl B) hB _
    refine append_own (e := 3) (sz := 1) (ys := ((L.map GThingI.at_).take n).map fun n : Int => [.raw (.int .i64 n)]) un_35 sz_3 (by rw [ze_3]; rfl) (Own.lit hBs _ _ _) (src_ints (by omega) (by simp; omega)) (by rw [by_3]; simp; omega) (by simp; omega) ?_
    rintro a1 H2 hO1 hk1
    rw [List.nil_append] at hO1
    have hy2 := hk1 _ _ hy (by rintro ⟨_, _, h⟩; cases h)
    have hBs2 : ∀ R, B.Sub (H2.put yb R) := fun R => put_own hO1.1 hB R
    have hO1k : ∀ R, Own B (H2.put yb R) 3 1 a1 _ := fun R => own_keep hO1 (hBs2 R) fun c r hc he => by
      have hne : c ≠ yb := by
        rintro rfl
        rw [hy2] at hc
        cases hc
        exact absurd he (show (38 : Nat) ≠ 3 by decide)
      rw [Hp.put_ne _ _ hne]; exact hc
    rcases hO1.2.2 with ⟨_, rfl | ⟨f, rfl⟩⟩ | ⟨b1, c1, rfl, _⟩
    all_goals
      repeat' (first
    | refine awp_seq_k fun K hK => ?_
    | (refine awp_region_vcl ?_; simp (disch := first | omega | (apply Hp.ne_of <;> assumption) | fail) only [go_sem, hy2, if_le_pos, List.length_map, wrap_in, cutOff_lt, Hp.put_ne, Int.reduceToNat, Nat.reduceMul, Nat.reduceAdd, Nat.reduceLeDiff, Nat.reduceSub, Nat.reduceEqDiff])
    | (refine hK _ _ ?_; clear hK K)
    | refine awp_block ?_
    | (refine awp_cond rfl (fun hc => ?_) (fun hc => ?_) <;> (try contradiction) <;> (try simp only [Bool.and_eq_true, Bool.or_eq_true, Bool.and_eq_false_iff, Bool.or_eq_false_iff, decide_eq_true_eq, decide_eq_false_iff_not, Bool.not_eq_true', Bool.not_eq_false', Int.not_lt, Int.not_le] at hc))
    | (refine awp_skip ?_; try simp only [go_sem, hy2, if_le_pos, List.length_map])
    | (refine awp_exit ?_; try simp only [go_sem, hy2, if_le_pos, List.length_map, Int.reduceToNat, Nat.reduceMul, Nat.reduceAdd, Nat.reduceLeDiff, Nat.reduceSub, Nat.reduceEqDiff])
    | (refine awp_ret ?_; try simp only [go_sem, hy2, if_le_pos, List.length_map, Int.reduceToNat, Nat.reduceMul, Nat.reduceAdd, Nat.reduceLeDiff, Nat.reduceSub, Nat.reduceEqDiff])
    | (refine vAlloc_intro (by simp only [go_sem, hy2, if_le_pos, List.length_map]) fun b hb => ?_; (try simp only [Hp.put_none] at hb); simp (disch := first | omega | (apply Hp.ne_of <;> assumption) | fail) only [go_sem, hy2, if_le_pos, List.length_map, wrap_in, cutOff_lt, Hp.put_ne, Int.reduceToNat, Nat.reduceMul, Nat.reduceAdd, Nat.reduceLeDiff, Nat.reduceSub, Nat.reduceEqDiff])
    | (refine vBox_intro (by simp only [go_sem, hy2, if_le_pos, List.length_map]) fun b hb => ?_; (try simp only [Hp.put_none] at hb); simp (disch := first | omega | (apply Hp.ne_of <;> assumption) | fail) only [go_sem, hy2, if_le_pos, List.length_map, wrap_in, cutOff_lt, Hp.put_ne, Int.reduceToNat, Nat.reduceMul, Nat.reduceAdd, Nat.reduceLeDiff, Nat.reduceSub, Nat.reduceEqDiff])
    | (refine ap_intro ?_; simp (disch := first | omega | (apply Hp.ne_of <;> assumption) | fail) only [go_sem, hy2, if_le_pos, List.length_map, wrap_in, cutOff_lt, Hp.put_ne, Int.reduceToNat, Nat.reduceMul, Nat.reduceAdd, Nat.reduceLeDiff, Nat.reduceSub, Nat.reduceEqDiff])
    | (refine And.intro (by first | omega | (simp +contextual; done) | (simp +contextual; intros; omega)) ?_)
    | (refine append_own (e := 3) (sz := 1) (ys := ((L.map GThingI.it).take n).map fun n : Int => [.raw (.int .i64 n)]) un_35 sz_3 (by rw [ze_3]; rfl) (Own.lit (hBs2 _) _ _ _) (src_ints (by omega) (by simp; omega)) (by rw [by_3]; simp; omega) (by simp; omega) ?_; rintro a2 H3 hO2 hk2; rw [List.nil_append] at hO2)
    | (clear hK K))
      have hy3 := hk2 _ _ (Hp.put_same _ _ _) (by rintro ⟨_, _, h⟩; cases h)
      have hO13 := own_keep (hO1k _) hO2.1 fun c r hc _ => hk2 c r hc (by rintro ⟨_, _, h⟩; cases h)
      have ed1 : (dropK GThingI.at_ L t).map GThingI.at_ = (L.map GThingI.at_).take n := by rw [hn2, ← List.map_take]; rfl
      have ed2 : (dropK GThingI.at_ L t).map GThingI.it = (L.map GThingI.it).take n := by rw [hn2, ← List.map_take]; rfl
      have hB3 : ∀ R, B.Sub (H3.put yb R) := fun R => put_own hO2.1 hB R
      have hst : ∀ (R : Row) (c : Nat) (r : Row), H3 c = some r → r.elem = 3 → (H3.put yb R) c = some r := fun R c r hc he => by
        have hne : c ≠ yb := by
          rintro rfl
          rw [hy3] at hc
          cases hc
          exact absurd he (show (38 : Nat) ≠ 3 by decide)
        rw [Hp.put_ne _ _ hne]; exact hc
      have hA1 := fun R => own_keep hO13 (hB3 R) (hst R)
      have hA2 := fun R => own_keep hO2 (hB3 R) (hst R)
      rcases hO2.2.2 with ⟨_, rfl | ⟨f2, rfl⟩⟩ | ⟨b2, c2, rfl, _⟩
      all_goals
        simp (disch := first | omega | (apply Hp.ne_of <;> assumption) | fail) only [go_sem, hy3, if_le_pos, wrap_in, cutOff_lt, Hp.put_ne, Int.reduceToNat, Nat.reduceMul, Nat.reduceAdd, Nat.reduceLeDiff, Nat.reduceSub, Nat.reduceEqDiff]
        refine ret_mk (.inl rfl) rfl (.tup []) (B.put yb (rowY m (dropK GThingI.at_ L t))) ?_ ⟨rfl, rfl⟩
        simp only [rowY, ints, slOf, ed1, ed2]
        exact rle_rows2 _ (hA1 _) (hA2 _) (by simp) (fun i hi => map_get (f := fun n : Int => [.raw (.int .i64 n)]) hi) (by simp) (fun i hi => map_get (f := fun n : Int => [.raw (.int .i64 n)]) hi) hB (by simp [Hp.put_same, nilA]) (by decide)
set_option maxHeartbeats 400000 in
set_option maxRecDepth 10000 in
theorem rnew_c (m : Int) (H : Hp) : ACalls Try.prog 6 [.raw (.int .i64 m)] H (fun r H' => ∃ yb, r = ptrAt yb ∧ H yb = none ∧ H' = H.put yb (rowY (if m < 1 then 1 else m) [])) := by
  refine acalls_enter Try.func6 rfl (by simp only [Try.ntmps6, List.length_cons, List.length_nil, Nat.reduceAdd, Nat.reduceSub, List.replicate, List.cons_append, List.nil_append]; rfl) ?_
  repeat' (first
    | refine awp_seq_k fun K hK => ?_
    | (refine awp_region_vcl ?_; simp (disch := omega) only [go_sem, wrap_in, cutOff_lt, Hp.put_ne, Int.reduceToNat, Nat.reduceMul, Nat.reduceAdd, Nat.reduceLeDiff, Nat.reduceSub, Nat.reduceEqDiff])
    | (refine hK _ _ ?_; clear hK K)
    | refine awp_block ?_
    | (refine awp_cond rfl (fun hc => ?_) (fun hc => ?_) <;> (try contradiction) <;> (try simp only [Bool.and_eq_true, Bool.or_eq_true, Bool.and_eq_false_iff, Bool.or_eq_false_iff, decide_eq_true_eq, decide_eq_false_iff_not, Bool.not_eq_true', Bool.not_eq_false', Int.not_lt, Int.not_le] at hc))
    | (refine awp_skip ?_; try simp only [go_sem])
    | (refine awp_exit ?_; try simp only [go_sem, Int.reduceToNat, Nat.reduceMul, Nat.reduceAdd, Nat.reduceLeDiff, Nat.reduceSub, Nat.reduceEqDiff])
    | (refine awp_ret ?_; try simp only [go_sem, Int.reduceToNat, Nat.reduceMul, Nat.reduceAdd, Nat.reduceLeDiff, Nat.reduceSub, Nat.reduceEqDiff])
    | (refine vAlloc_intro (by simp only [go_sem]) fun b hb => ?_; (try simp only [Hp.put_none] at hb); simp (disch := omega) only [go_sem, wrap_in, cutOff_lt, Hp.put_ne, Int.reduceToNat, Nat.reduceMul, Nat.reduceAdd, Nat.reduceLeDiff, Nat.reduceSub, Nat.reduceEqDiff])
    | (refine vBox_intro (by simp only [go_sem]) fun b hb => ?_; (try simp only [Hp.put_none] at hb); simp (disch := omega) only [go_sem, wrap_in, cutOff_lt, Hp.put_ne, Int.reduceToNat, Nat.reduceMul, Nat.reduceAdd, Nat.reduceLeDiff, Nat.reduceSub, Nat.reduceEqDiff])
    | (refine ap_intro ?_; simp (disch := omega) only [go_sem, wrap_in, cutOff_lt, Hp.put_ne, Int.reduceToNat, Nat.reduceMul, Nat.reduceAdd, Nat.reduceLeDiff, Nat.reduceSub, Nat.reduceEqDiff])
    | (refine And.intro (by first | omega | (simp +contextual; done) | (simp +contextual; intros; omega)) ?_)
    | (clear hK K))
  refine ret_mk (.inr rfl) rfl (ptrAt b) (H.put b (rowY (if m < 1 then 1 else m) [])) ?_ ⟨b, rfl, hb, rfl⟩
  exact rle_rows2 (ti := 3) _ (Own.nil ((Hp.Sub.refl H).put _ hb) _ _) (Own.nil ((Hp.Sub.refl H).put _ hb) _ _) rfl (fun i hi => by simp at hi) rfl (fun i hi => by simp at hi) hb (Hp.put_same _ _ _) (by decide)
end Go.Proofs.Ytemapkbfpkdddaa

/- The law EvalTypes: what it says is so. No conditions. -/
import Derived.Test.YtbpmikjlfgfbmaaGreatDoorLeA
set_option linter.all false
namespace Go.Proofs.YtbpmikjlfgfbmaaGreatDoor
open Go Go.Gd
def sumL (l : List Int) (a : Int) : Int := l.foldl (fun s x => IntKind.i64.wrap (IntKind.i64.wrap (s * 31) + x)) a
def sumH (h : List (List Int)) : Int := h.foldl (fun s l => sumL l s) 0
@[go_sem] theorem sumH_nil : sumH [] = 0 := (rfl)
@[go_sem] theorem sumL_nil (a : Int) : sumL [] a = a := (rfl)
theorem sumL_take (l : List Int) (a : Int) {k : Nat} (h : k < l.length) : sumL (l.take (k + 1)) a = IntKind.i64.wrap (IntKind.i64.wrap (sumL (l.take k) a * 31) + nth l k) := by rw [take_nth h]; simp [sumL]
theorem sumH_take (l : List (List Int)) {k : Nat} (h : k < l.length) : sumH (l.take (k + 1)) = sumL (nth l k) (sumH (l.take k)) := by rw [take_nth h]; simp [sumH]
set_option maxHeartbeats 4000000
set_option maxRecDepth 10000
theorem evalTypes_c (s : ByteArray) (m : GMem) : PCall Tryz.prog 4 [rS s, .agg (eMem m)] (rB true) := by
  have l1 := fewS_len m.slots
  have l2 := fewH_len m.heap
  have hz : ∀ k, k < (fewH m.heap).length → (nth (fewH m.heap) k).length ≤ 20 := fun k hk => by
    unfold fewH at hk ⊢
    rw [nth_map _ (by simpa using hk)]
    simp; omega
  have hs := source_c (shortF s) (short_size s)
  have hok := @source_ok (shortF s)
  generalize sourceF (shortF s) = R at hs hok
  obtain ⟨p, x, e⟩ := R
  simp only at hs hok
  by_cases he : e = 0
  · have hp := hok he
    have hmany := hp.tree.many
    have hlt := hp.types
    refine entP Tryz.func4 Tryz.ntmps4 ?_
    (have W := he; repeat' (first
    | refine awp_seq_k fun K hK => ?_
    | refine wkA ?_
    | refine dE 22 [0, 1, 2, 3, 4, 5, 6, 7, 8, 9, 10, 11, 12, 13, 14, 15, 16, 17, 18, 19, 20, 21, 22, 23, 24, 25, 26, 27, 28, 29, 30, 31, 32, 33, 34, 35, 36, 37, 38, 39, 40, 41, 42, 43, 44, 45, 46] mixed ?_
    | refine dE 35 [0, 1, 2, 3, 4, 5, 6, 7, 8] mixed ?_
    | (refine hK _ _ ?_; clear hK K)
    | (refine wcond (fun hc => ?_) (fun hc => ?_) <;> first | contradiction | (exfalso; omega) | skip)
    | refine cp (shown_c) ?_
    | refine cp (short_c _) ?_
    | refine cp (hs) ?_
    | refine cp (few_c _) ?_
    | refine wkB ?_
    | exact True.intro
    | (clear hK K))); all_goals (try clear W)
    have hKo0 := hK; clear hK
    refine awp_loop_inv (S := Nat) [(12, 3), (43, 25)] (fun k => k ≤ (fewH m.heap).length) (fun k => [(12, rI (sumH ((fewH m.heap).take k))), (13, rI k)]) (fun k => ⟨[], [(0, .var 25 (eMem m)), (1, .var 33 (eGProg p)), (2, .vec 44 3 ((fewS m.slots).map eGValue))]⟩) (fun k => (fewH m.heap).length - k) 0 (by omega) (fle_at (by simp only [go_sem]) lle) ?_
    rintro k hk1 Kr hKr
    (refine S ?_; try exact True.intro)
    (repeat' (first
    | refine awp_seq_k fun K hK => ?_
    | refine wkA ?_
    | refine dE 22 [0, 1, 2, 3, 4, 5, 6, 7, 8, 9, 10, 11, 12, 13, 14, 15, 16, 17, 18, 19, 20, 21, 22, 23, 24, 25, 26, 27, 28, 29, 30, 31, 32, 33, 34, 35, 36, 37, 38, 39, 40, 41, 42, 43, 44, 45, 46] mixed ?_
    | refine dE 35 [0, 1, 2, 3, 4, 5, 6, 7, 8] mixed ?_
    | (refine hK _ _ ?_; clear hK K)
    | (refine wcond (fun hc => ?_) (fun hc => ?_) <;> first | contradiction | (exfalso; omega) | skip)
    | (refine hKo0 _ _ ?_)
    | refine wkB ?_
    | exact True.intro
    | (clear hK K)))
    · have hKb := hK; clear hK
      have hzk := hz k (by omega)
      refine awp_loop_inv (S := Nat) [(12, 1), (14, 1), (49, 19)] (fun j => j ≤ (nth (fewH m.heap) k).length) (fun j => [(12, rI (sumL ((nth (fewH m.heap) k).take j) (sumH ((fewH m.heap).take k)))), (14, rI j)]) (fun j => ⟨[], [(0, .var 25 (eMem m)), (1, .var 33 (eGProg p)), (2, .vec 44 3 ((fewS m.slots).map eGValue))]⟩) (fun j => (nth (fewH m.heap) k).length - j) 0 (by omega) (fle_at (by simp only [go_sem]) lle) ?_
      rintro j hj1 Kq hKq
      (refine S ?_; try exact True.intro)
      (repeat' (first
    | refine awp_seq_k fun K hK => ?_
    | refine wkA ?_
    | refine dE 22 [0, 1, 2, 3, 4, 5, 6, 7, 8, 9, 10, 11, 12, 13, 14, 15, 16, 17, 18, 19, 20, 21, 22, 23, 24, 25, 26, 27, 28, 29, 30, 31, 32, 33, 34, 35, 36, 37, 38, 39, 40, 41, 42, 43, 44, 45, 46] mixed ?_
    | refine dE 35 [0, 1, 2, 3, 4, 5, 6, 7, 8] mixed ?_
    | (refine hK _ _ ?_; clear hK K)
    | (refine wcond (fun hc => ?_) (fun hc => ?_) <;> first | contradiction | (exfalso; omega) | skip)
    | (refine hKb _ _ ?_)
    | refine wkB ?_
    | exact True.intro
    | (clear hK K)))
      · have e4 := sumL_take (nth (fewH m.heap) k) (sumH ((fewH m.heap).take k)) (k := j) (by omega)
        refine hKq _ _ (next_mk (j + 1) (by omega) (by (try simp only); omega) (by simp only [go_sem]) (by simp only [go_sem, LLe, Nat.reduceAdd, AV.raw.injEq, Value.int.injEq, Value.slice.injEq, Value.pointer.injEq, AV.rs.injEq, e4]; try omega))
      · have e4 := sumH_take (fewH m.heap) (k := k) (by omega)
        have e5 : (nth (fewH m.heap) k).take j = nth (fewH m.heap) k := List.take_of_length_le (by omega)
        refine hKr _ _ (next_mk (k + 1) (by omega) (by (try simp only); omega) (by simp only [go_sem]) (by simp only [go_sem, LLe, Nat.reduceAdd, AV.raw.injEq, Value.int.injEq, Value.slice.injEq, Value.pointer.injEq, AV.rs.injEq, e4, e5]; try omega))
    have hk2 : k = (fewH m.heap).length := by omega
    rw [List.take_of_length_le (by omega)]
    have hKo2 := hK; clear hK
    refine awp_loop_inv (S := Nat) [(4, 1), (15, 5), (68, 74)] (fun k => k ≤ p.tree.nodes.length) (fun k => [(15, rI k)]) (fun k => ⟨[], [(0, .var 25 (eMem m)), (1, .var 33 (eGProg p)), (2, .vec 44 3 ((fewS m.slots).map eGValue))]⟩) (fun k => p.tree.nodes.length - k) 0 (by omega) (fle_at (by simp only [go_sem]) lle) ?_
    rintro j hj1 Kr2 hKr2
    (refine S ?_; try exact True.intro)
    by_cases hjl : j < p.tree.nodes.length
    · cases hi : isX (nth p.tree.nodes j) with
      | false =>
        (have W := hi; repeat' (first
    | refine awp_seq_k fun K hK => ?_
    | refine wkA ?_
    | refine dE 22 [0, 1, 2, 3, 4, 5, 6, 7, 8, 9, 10, 11, 12, 13, 14, 15, 16, 17, 18, 19, 20, 21, 22, 23, 24, 25, 26, 27, 28, 29, 30, 31, 32, 33, 34, 35, 36, 37, 38, 39, 40, 41, 42, 43, 44, 45, 46] mixed ?_
    | refine dE 35 [0, 1, 2, 3, 4, 5, 6, 7, 8] mixed ?_
    | (refine hK _ _ ?_; clear hK K)
    | (refine wcond (fun hc => ?_) (fun hc => ?_) <;> first | contradiction | (exfalso; omega) | skip)
    | (refine hKo2 _ _ ?_)
    | refine cp (is6_c _) ?_
    | refine wkB ?_
    | exact True.intro
    | (clear hK K))); all_goals (try clear W)
        refine hKr2 _ _ (next_mk (j + 1) (by omega) (by (try simp only); omega) (by simp only [go_sem]) lle)
      | true =>
        have hX := Expr_c hp (fewS m.slots) (fewH m.heap) (by omega) (j + 1) j (by omega) (by omega) (by omega) (isX_E hi)
        have hT := expr_ok hp (fewS m.slots) (fewH m.heap) (j + 1) j (by omega) (by omega) (by omega) (isX_E hi)
        generalize exprV p (fewS m.slots) (fewH m.heap) (j + 1) j = V at hX hT
        rcases hT with ⟨t1, t2, t3⟩ | ⟨t1, t2⟩
        · have t2' : V.1.ty = nth p.types j := by rw [t2]; simp
          (have W := And.intro hi (And.intro t1 (And.intro t2' (t3))); repeat' (first
    | refine awp_seq_k fun K hK => ?_
    | refine wkA ?_
    | refine dE 22 [0, 1, 2, 3, 4, 5, 6, 7, 8, 9, 10, 11, 12, 13, 14, 15, 16, 17, 18, 19, 20, 21, 22, 23, 24, 25, 26, 27, 28, 29, 30, 31, 32, 33, 34, 35, 36, 37, 38, 39, 40, 41, 42, 43, 44, 45, 46] mixed ?_
    | refine dE 35 [0, 1, 2, 3, 4, 5, 6, 7, 8] mixed ?_
    | (refine hK _ _ ?_; clear hK K)
    | (refine wcond (fun hc => ?_) (fun hc => ?_) <;> first | contradiction | (exfalso; omega) | skip)
    | (refine hKo2 _ _ ?_)
    | refine cp (hX) ?_
    | refine cp (may5_c _) ?_
    | refine cp (is6_c _) ?_
    | refine wkB ?_
    | exact True.intro
    | (clear hK K))); all_goals (try clear W)
          refine hKr2 _ _ (next_drop [3] (j + 1) (by omega) (by (try simp only); omega) rfl Sd (by simp only [go_sem]; (try rfl)) vtl)
        · obtain ⟨v, t⟩ := V
          simp only at t1 t2
          subst t2
          rcases t1 with rfl | rfl | rfl
          · (have W := hi; repeat' (first
    | refine awp_seq_k fun K hK => ?_
    | refine wkA ?_
    | refine dE 22 [0, 1, 2, 3, 4, 5, 6, 7, 8, 9, 10, 11, 12, 13, 14, 15, 16, 17, 18, 19, 20, 21, 22, 23, 24, 25, 26, 27, 28, 29, 30, 31, 32, 33, 34, 35, 36, 37, 38, 39, 40, 41, 42, 43, 44, 45, 46] mixed ?_
    | refine dE 35 [0, 1, 2, 3, 4, 5, 6, 7, 8] mixed ?_
    | (refine hK _ _ ?_; clear hK K)
    | (refine wcond (fun hc => ?_) (fun hc => ?_) <;> first | contradiction | (exfalso; omega) | skip)
    | (refine hKo2 _ _ ?_)
    | refine cp (hX) ?_
    | refine cp (may5_c _) ?_
    | refine cp (is6_c _) ?_
    | refine wkB ?_
    | exact True.intro
    | (clear hK K))); all_goals (try clear W)
            refine hKr2 _ _ (next_drop [3] (j + 1) (by omega) (by (try simp only); omega) rfl Sd (by simp only [go_sem]; (try rfl)) vtl)
          · (have W := hi; repeat' (first
    | refine awp_seq_k fun K hK => ?_
    | refine wkA ?_
    | refine dE 22 [0, 1, 2, 3, 4, 5, 6, 7, 8, 9, 10, 11, 12, 13, 14, 15, 16, 17, 18, 19, 20, 21, 22, 23, 24, 25, 26, 27, 28, 29, 30, 31, 32, 33, 34, 35, 36, 37, 38, 39, 40, 41, 42, 43, 44, 45, 46] mixed ?_
    | refine dE 35 [0, 1, 2, 3, 4, 5, 6, 7, 8] mixed ?_
    | (refine hK _ _ ?_; clear hK K)
    | (refine wcond (fun hc => ?_) (fun hc => ?_) <;> first | contradiction | (exfalso; omega) | skip)
    | (refine hKo2 _ _ ?_)
    | refine cp (hX) ?_
    | refine cp (may5_c _) ?_
    | refine cp (is6_c _) ?_
    | refine wkB ?_
    | exact True.intro
    | (clear hK K))); all_goals (try clear W)
            refine hKr2 _ _ (next_drop [3] (j + 1) (by omega) (by (try simp only); omega) rfl Sd (by simp only [go_sem]; (try rfl)) vtl)
          · (have W := hi; repeat' (first
    | refine awp_seq_k fun K hK => ?_
    | refine wkA ?_
    | refine dE 22 [0, 1, 2, 3, 4, 5, 6, 7, 8, 9, 10, 11, 12, 13, 14, 15, 16, 17, 18, 19, 20, 21, 22, 23, 24, 25, 26, 27, 28, 29, 30, 31, 32, 33, 34, 35, 36, 37, 38, 39, 40, 41, 42, 43, 44, 45, 46] mixed ?_
    | refine dE 35 [0, 1, 2, 3, 4, 5, 6, 7, 8] mixed ?_
    | (refine hK _ _ ?_; clear hK K)
    | (refine wcond (fun hc => ?_) (fun hc => ?_) <;> first | contradiction | (exfalso; omega) | skip)
    | (refine hKo2 _ _ ?_)
    | refine cp (hX) ?_
    | refine cp (may5_c _) ?_
    | refine cp (is6_c _) ?_
    | refine wkB ?_
    | exact True.intro
    | (clear hK K))); all_goals (try clear W)
            refine hKr2 _ _ (next_drop [3] (j + 1) (by omega) (by (try simp only); omega) rfl Sd (by simp only [go_sem]; (try rfl)) vtl)
    · have hj2 : j = p.tree.nodes.length := by omega
      (repeat' (first
    | refine awp_seq_k fun K hK => ?_
    | refine wkA ?_
    | refine dE 22 [0, 1, 2, 3, 4, 5, 6, 7, 8, 9, 10, 11, 12, 13, 14, 15, 16, 17, 18, 19, 20, 21, 22, 23, 24, 25, 26, 27, 28, 29, 30, 31, 32, 33, 34, 35, 36, 37, 38, 39, 40, 41, 42, 43, 44, 45, 46] mixed ?_
    | refine dE 35 [0, 1, 2, 3, 4, 5, 6, 7, 8] mixed ?_
    | (refine hK _ _ ?_; clear hK K)
    | (refine wcond (fun hc => ?_) (fun hc => ?_) <;> first | contradiction | (exfalso; omega) | skip)
    | (refine hKo2 _ _ ?_)
    | refine wkB ?_
    | exact True.intro
    | (clear hK K)))
      have hKo3 := hK; clear hK
      refine awp_loop_inv (S := Nat) [(20, 3), (142, 25)] (fun k => k ≤ (fewH m.heap).length) (fun k => [(20, rI (sumH ((fewH m.heap).take k))), (21, rI k)]) (fun k => ⟨[], [(0, .var 25 (eMem m)), (1, .var 33 (eGProg p)), (2, .vec 44 3 ((fewS m.slots).map eGValue))]⟩) (fun k => (fewH m.heap).length - k) 0 (by omega) (fle_at (by simp only [go_sem]) lle) ?_
      rintro i hi1 Kr3 hKr3
      (refine S ?_; try exact True.intro)
      (repeat' (first
    | refine awp_seq_k fun K hK => ?_
    | refine wkA ?_
    | refine dE 22 [0, 1, 2, 3, 4, 5, 6, 7, 8, 9, 10, 11, 12, 13, 14, 15, 16, 17, 18, 19, 20, 21, 22, 23, 24, 25, 26, 27, 28, 29, 30, 31, 32, 33, 34, 35, 36, 37, 38, 39, 40, 41, 42, 43, 44, 45, 46] mixed ?_
    | refine dE 35 [0, 1, 2, 3, 4, 5, 6, 7, 8] mixed ?_
    | (refine hK _ _ ?_; clear hK K)
    | (refine wcond (fun hc => ?_) (fun hc => ?_) <;> first | contradiction | (exfalso; omega) | skip)
    | (refine hKo3 _ _ ?_)
    | refine wkB ?_
    | exact True.intro
    | (clear hK K)))
      · have hKb := hK; clear hK
        have hzk := hz i (by omega)
        refine awp_loop_inv (S := Nat) [(20, 1), (22, 1), (148, 19)] (fun j => j ≤ (nth (fewH m.heap) i).length) (fun j => [(20, rI (sumL ((nth (fewH m.heap) i).take j) (sumH ((fewH m.heap).take i)))), (22, rI j)]) (fun j => ⟨[], [(0, .var 25 (eMem m)), (1, .var 33 (eGProg p)), (2, .vec 44 3 ((fewS m.slots).map eGValue))]⟩) (fun j => (nth (fewH m.heap) i).length - j) 0 (by omega) (fle_at (by simp only [go_sem]) lle) ?_
        rintro q hq1 Kq hKq
        (refine S ?_; try exact True.intro)
        (repeat' (first
    | refine awp_seq_k fun K hK => ?_
    | refine wkA ?_
    | refine dE 22 [0, 1, 2, 3, 4, 5, 6, 7, 8, 9, 10, 11, 12, 13, 14, 15, 16, 17, 18, 19, 20, 21, 22, 23, 24, 25, 26, 27, 28, 29, 30, 31, 32, 33, 34, 35, 36, 37, 38, 39, 40, 41, 42, 43, 44, 45, 46] mixed ?_
    | refine dE 35 [0, 1, 2, 3, 4, 5, 6, 7, 8] mixed ?_
    | (refine hK _ _ ?_; clear hK K)
    | (refine wcond (fun hc => ?_) (fun hc => ?_) <;> first | contradiction | (exfalso; omega) | skip)
    | (refine hKb _ _ ?_)
    | refine wkB ?_
    | exact True.intro
    | (clear hK K)))
        · have e4 := sumL_take (nth (fewH m.heap) i) (sumH ((fewH m.heap).take i)) (k := q) (by omega)
          refine hKq _ _ (next_mk (q + 1) (by omega) (by (try simp only); omega) (by simp only [go_sem]) (by simp only [go_sem, LLe, Nat.reduceAdd, AV.raw.injEq, Value.int.injEq, Value.slice.injEq, Value.pointer.injEq, AV.rs.injEq, e4]; try omega))
        · have e4 := sumH_take (fewH m.heap) (k := i) (by omega)
          have e5 : (nth (fewH m.heap) i).take q = nth (fewH m.heap) i := List.take_of_length_le (by omega)
          refine hKr3 _ _ (next_mk (i + 1) (by omega) (by (try simp only); omega) (by simp only [go_sem]) (by simp only [go_sem, LLe, Nat.reduceAdd, AV.raw.injEq, Value.int.injEq, Value.slice.injEq, Value.pointer.injEq, AV.rs.injEq, e4, e5]; try omega))
      · rw [List.take_of_length_le (by omega)]
        have hKo4 := hK; clear hK
        refine awp_loop_inv (S := Nat) [(4, 1), (23, 1), (167, 15)] (fun k => k ≤ (fewS m.slots).length) (fun k => [(23, rI k)]) (fun k => ⟨[], [(0, .var 25 (eMem m)), (1, .var 33 (eGProg p)), (2, .vec 44 3 ((fewS m.slots).map eGValue))]⟩) (fun k => (fewS m.slots).length - k) 0 (by omega) (fle_at (by simp only [go_sem]) lle) ?_
        rintro q hq1 Kr4 hKr4
        (refine S ?_; try exact True.intro)
        (repeat' (first
    | refine awp_seq_k fun K hK => ?_
    | refine wkA ?_
    | refine dE 22 [0, 1, 2, 3, 4, 5, 6, 7, 8, 9, 10, 11, 12, 13, 14, 15, 16, 17, 18, 19, 20, 21, 22, 23, 24, 25, 26, 27, 28, 29, 30, 31, 32, 33, 34, 35, 36, 37, 38, 39, 40, 41, 42, 43, 44, 45, 46] mixed ?_
    | refine dE 35 [0, 1, 2, 3, 4, 5, 6, 7, 8] mixed ?_
    | (refine hK _ _ ?_; clear hK K)
    | (refine wcond (fun hc => ?_) (fun hc => ?_) <;> first | contradiction | (exfalso; omega) | skip)
    | (refine hKo4 _ _ ?_)
    | refine wkB ?_
    | exact True.intro
    | (clear hK K)))
        · refine hKr4 _ _ (next_mk (q + 1) (by omega) (by (try simp only); omega) (by simp only [go_sem]) lle)
        · (refine retd [.tmp 4] ?_; try simp only [go_sem])
  · refine entP Tryz.func4 Tryz.ntmps4 ?_
    (have W := he; repeat' (first
    | refine awp_seq_k fun K hK => ?_
    | refine wkA ?_
    | refine dE 22 [0, 1, 2, 3, 4, 5, 6, 7, 8, 9, 10, 11, 12, 13, 14, 15, 16, 17, 18, 19, 20, 21, 22, 23, 24, 25, 26, 27, 28, 29, 30, 31, 32, 33, 34, 35, 36, 37, 38, 39, 40, 41, 42, 43, 44, 45, 46] mixed ?_
    | refine dE 35 [0, 1, 2, 3, 4, 5, 6, 7, 8] mixed ?_
    | (refine hK _ _ ?_; clear hK K)
    | (refine wcond (fun hc => ?_) (fun hc => ?_) <;> first | contradiction | (exfalso; omega) | skip)
    | refine cp (shown_c) ?_
    | refine cp (short_c _) ?_
    | refine cp (hs) ?_
    | refine wkB ?_
    | exact True.intro
    | (clear hK K))); all_goals (try clear W)
    (refine retd [.tmp 4] ?_; try simp only [go_sem])
end Go.Proofs.YtbpmikjlfgfbmaaGreatDoor

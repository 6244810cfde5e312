/- The law EvalSigns: what it says is so. No conditions. -/
import Derived.Test.YtbpmikjlfgfbmaaGreatDoorLeA
set_option linter.all false
namespace Go.Proofs.YtbpmikjlfgfbmaaGreatDoor
open Go Go.Gd
set_option maxHeartbeats 4000000
set_option maxRecDepth 10000
theorem evalSigns_c (s : ByteArray) (m : GMem) : PCall Tryz.prog 6 [rS s, .agg (eMem m)] (rB true) := by
  have l1 := fewS_len m.slots
  have l2 := fewH_len m.heap
  have hs := source_c (shortF s) (short_size s)
  have hok := @source_ok (shortF s)
  generalize sourceF (shortF s) = R at hs hok
  obtain ⟨p, x, e⟩ := R
  simp only at hs hok
  by_cases he : e = 0
  · have hp := hok he
    have hmany := hp.tree.many
    refine entP Tryz.func6 Tryz.ntmps6 ?_
    (have W := he; repeat' (first
    | refine awp_seq_k fun K hK => ?_
    | refine wkA ?_
    | refine dL 11 [] [11] [0, 1, 2, 3, 4, 5, 6, 7, 8, 9, 10, 11, 12, 13] mixed ?_
    | refine dL 12 [] [11] [0, 1, 2, 3, 4, 5, 6, 7, 8, 9, 10, 11, 12, 13] mixed ?_
    | (refine hK _ _ ?_; clear hK K)
    | (refine wcond (fun hc => ?_) (fun hc => ?_) <;> first | contradiction | (exfalso; omega) | skip)
    | refine cp (shown_c) ?_
    | refine cp (short_c _) ?_
    | refine cp (hs) ?_
    | refine cp (few_c _) ?_
    | refine wkB ?_
    | exact True.intro
    | (clear hK K))); all_goals (try clear W)
    have hKo := hK; clear hK
    refine awp_loop_inv (S := Nat) [(4, 1), (11, 11), (38, 107)] (fun k => k ≤ p.tree.nodes.length) (fun k => [(11, rI k)]) (fun k => ⟨[], [(0, .var 25 (eMem m)), (1, .var 33 (eGProg p))]⟩) (fun k => p.tree.nodes.length - k) 0 (by omega) (fle_at (by simp only [go_sem]) lle) ?_
    rintro k hk1 Kr hKr
    (refine S ?_; try exact True.intro)
    by_cases hlt : k < p.tree.nodes.length
    · by_cases k9 : (nth p.tree.nodes k).kind = 9
      · have sh := hp.tree.shape k hlt
        obtain ⟨x, y, hl, hx, hy⟩ := sh.1.two (by omega)
        have hlen : (nth p.tree.nodes k).l.length = 2 := by rw [hl]; rfl
        have hx' : nth (nth p.tree.nodes k).l 0 = x := by rw [hl]; rfl
        have hy' : nth (nth p.tree.nodes k).l 1 = y := by rw [hl]; rfl
        have hb := sh.2.1 x (by rw [hl]; simp)
        have hb2 := sh.2.1 y (by rw [hl]; simp)
        have hX := Expr_c hp (fewS m.slots) (fewH m.heap) (by omega) k x hb.1 (by omega) (by omega) hx
        have hY := Expr_c hp (fewS m.slots) (fewH m.heap) (by omega) k y hb2.1 (by omega) (by omega) hy
        have hV := Expr_c hp (fewS m.slots) (fewH m.heap) (by omega) (k + 1) k (by omega) (by omega) (by omega) (by unfold isE kindAt; simp only [Int.toNat_natCast]; omega)
        have s1 := (expr_ok hp (fewS m.slots) (fewH m.heap) k x hb.1 (by omega) (by omega) hx).size
        have s2 := (expr_ok hp (fewS m.slots) (fewH m.heap) k y hb2.1 (by omega) (by omega) hy).size
        rw [exprV9 _ _ k (a := (k : Int)) (by simpa using k9)] at hV
        simp only [Int.toNat_natCast] at hV
        rw [hx', hy'] at hV
        generalize exprV p (fewS m.slots) (fewH m.heap) k x = X at hX hV s1
        generalize exprV p (fewS m.slots) (fewH m.heap) k y = Y at hY hV s2
        by_cases q1 : X.2 = 0
        · by_cases q2 : ((nth p.tree.nodes k).name = (⟨#[124, 124]⟩ : ByteArray) ∧ X.1.n = 1) ∨ ((nth p.tree.nodes k).name = (⟨#[38, 38]⟩ : ByteArray) ∧ X.1.n = 0)
          · have e1 : binX (nth p.tree.nodes k).name X Y = (X.1, 0) := by unfold binX; rw [if_neg (fun h => h q1), if_pos q2]
            rw [e1] at hV
            (have W := And.intro k9 (And.intro hlen (And.intro hx' (And.intro hy' (q1)))); repeat' (first
    | refine awp_seq_k fun K hK => ?_
    | refine wkA ?_
    | refine dL 11 [] [11] [0, 1, 2, 3, 4, 5, 6, 7, 8, 9, 10, 11, 12, 13] mixed ?_
    | refine dL 12 [] [11] [0, 1, 2, 3, 4, 5, 6, 7, 8, 9, 10, 11, 12, 13] mixed ?_
    | (refine hK _ _ ?_; clear hK K)
    | (refine wcond (fun hc => ?_) (fun hc => ?_) <;> first | contradiction | (exfalso; omega) | skip)
    | (refine hKo _ _ ?_)
    | refine al 2 ?_
    | refine al 3 ?_
    | refine al 4 ?_
    | refine al 5 ?_
    | refine al 6 ?_
    | refine cp (hX) ?_
    | refine cp (hY) ?_
    | refine cp (hV) ?_
    | refine cp (bin5_c _ _ _ (by omega) (by omega)) ?_
    | refine wkB ?_
    | exact True.intro
    | (clear hK K))); all_goals (try clear W)
            all_goals first | (exfalso; exact no_both (by assumption) q2) | refine hKr _ _ (next_drop [2, 3, 4, 5, 6] (k + 1) (by omega) (by (try simp only); omega) rfl Sd (by simp only [go_sem]; (try rfl)) vtl)
          · by_cases q3 : Y.2 = 0
            · have e1 : binX (nth p.tree.nodes k).name X Y = binV (nth p.tree.nodes k).name X.1 Y.1 := by rw [binX_late q1 q2, if_neg (fun h => h q3)]
              rw [e1] at hV
              (have W := And.intro k9 (And.intro hlen (And.intro hx' (And.intro hy' (And.intro q1 (q3))))); repeat' (first
    | refine awp_seq_k fun K hK => ?_
    | refine wkA ?_
    | refine dL 11 [] [11] [0, 1, 2, 3, 4, 5, 6, 7, 8, 9, 10, 11, 12, 13] mixed ?_
    | refine dL 12 [] [11] [0, 1, 2, 3, 4, 5, 6, 7, 8, 9, 10, 11, 12, 13] mixed ?_
    | (refine hK _ _ ?_; clear hK K)
    | (refine wcond (fun hc => ?_) (fun hc => ?_) <;> first | contradiction | (exfalso; omega) | skip)
    | (refine hKo _ _ ?_)
    | refine al 2 ?_
    | refine al 3 ?_
    | refine al 4 ?_
    | refine al 5 ?_
    | refine al 6 ?_
    | refine cp (hX) ?_
    | refine cp (hY) ?_
    | refine cp (hV) ?_
    | refine cp (bin5_c _ _ _ (by omega) (by omega)) ?_
    | refine wkB ?_
    | exact True.intro
    | (clear hK K))); all_goals (try clear W)
              all_goals first | exact (q2 (by assumption)).elim | refine hKr _ _ (next_drop [2, 3, 4, 5, 6] (k + 1) (by omega) (by (try simp only); omega) rfl Sd (by simp only [go_sem]; (try rfl)) vtl)
            · have e1 : binX (nth p.tree.nodes k).name X Y = (v0, Y.2) := by rw [binX_late q1 q2, if_pos q3]
              rw [e1] at hV
              (have W := And.intro k9 (And.intro hlen (And.intro hx' (And.intro hy' (And.intro q1 (q3))))); repeat' (first
    | refine awp_seq_k fun K hK => ?_
    | refine wkA ?_
    | refine dL 11 [] [11] [0, 1, 2, 3, 4, 5, 6, 7, 8, 9, 10, 11, 12, 13] mixed ?_
    | refine dL 12 [] [11] [0, 1, 2, 3, 4, 5, 6, 7, 8, 9, 10, 11, 12, 13] mixed ?_
    | (refine hK _ _ ?_; clear hK K)
    | (refine wcond (fun hc => ?_) (fun hc => ?_) <;> first | contradiction | (exfalso; omega) | skip)
    | (refine hKo _ _ ?_)
    | refine al 2 ?_
    | refine al 3 ?_
    | refine al 4 ?_
    | refine al 5 ?_
    | refine al 6 ?_
    | refine cp (hX) ?_
    | refine cp (hY) ?_
    | refine cp (hV) ?_
    | refine cp (bin5_c _ _ _ (by omega) (by omega)) ?_
    | refine wkB ?_
    | exact True.intro
    | (clear hK K))); all_goals (try clear W)
              all_goals first | exact (q2 (by assumption)).elim | refine hKr _ _ (next_drop [2, 3, 4, 5, 6] (k + 1) (by omega) (by (try simp only); omega) rfl Sd (by simp only [go_sem]; (try rfl)) vtl)
        · have e1 : binX (nth p.tree.nodes k).name X Y = (v0, X.2) := by unfold binX; rw [if_pos q1]
          rw [e1] at hV
          (have W := And.intro k9 (And.intro hlen (And.intro hx' (And.intro hy' (q1)))); repeat' (first
    | refine awp_seq_k fun K hK => ?_
    | refine wkA ?_
    | refine dL 11 [] [11] [0, 1, 2, 3, 4, 5, 6, 7, 8, 9, 10, 11, 12, 13] mixed ?_
    | refine dL 12 [] [11] [0, 1, 2, 3, 4, 5, 6, 7, 8, 9, 10, 11, 12, 13] mixed ?_
    | (refine hK _ _ ?_; clear hK K)
    | (refine wcond (fun hc => ?_) (fun hc => ?_) <;> first | contradiction | (exfalso; omega) | skip)
    | (refine hKo _ _ ?_)
    | refine al 2 ?_
    | refine al 3 ?_
    | refine al 4 ?_
    | refine al 5 ?_
    | refine al 6 ?_
    | refine cp (hX) ?_
    | refine cp (hY) ?_
    | refine cp (hV) ?_
    | refine cp (bin5_c _ _ _ (by omega) (by omega)) ?_
    | refine wkB ?_
    | exact True.intro
    | (clear hK K))); all_goals (try clear W)
          refine hKr _ _ (next_drop [2, 3, 4, 5, 6] (k + 1) (by omega) (by (try simp only); omega) rfl Sd (by simp only [go_sem]; (try rfl)) vtl)
      · (have W := k9; repeat' (first
    | refine awp_seq_k fun K hK => ?_
    | refine wkA ?_
    | refine dL 11 [] [11] [0, 1, 2, 3, 4, 5, 6, 7, 8, 9, 10, 11, 12, 13] mixed ?_
    | refine dL 12 [] [11] [0, 1, 2, 3, 4, 5, 6, 7, 8, 9, 10, 11, 12, 13] mixed ?_
    | (refine hK _ _ ?_; clear hK K)
    | (refine wcond (fun hc => ?_) (fun hc => ?_) <;> first | contradiction | (exfalso; omega) | skip)
    | (refine hKo _ _ ?_)
    | refine wkB ?_
    | exact True.intro
    | (clear hK K))); all_goals (try clear W)
        refine hKr _ _ (next_drop [2] (k + 1) (by omega) (by (try simp only); omega) rfl Sd (by simp only [go_sem]; (try rfl)) vtl)
    · (repeat' (first
    | refine awp_seq_k fun K hK => ?_
    | refine wkA ?_
    | refine dL 11 [] [11] [0, 1, 2, 3, 4, 5, 6, 7, 8, 9, 10, 11, 12, 13] mixed ?_
    | refine dL 12 [] [11] [0, 1, 2, 3, 4, 5, 6, 7, 8, 9, 10, 11, 12, 13] mixed ?_
    | (refine hK _ _ ?_; clear hK K)
    | (refine wcond (fun hc => ?_) (fun hc => ?_) <;> first | contradiction | (exfalso; omega) | skip)
    | (refine hKo _ _ ?_)
    | refine wkB ?_
    | exact True.intro
    | (clear hK K)))
      (refine retd [.tmp 4] ?_; try simp only [go_sem])
  · refine entP Tryz.func6 Tryz.ntmps6 ?_
    (have W := he; repeat' (first
    | refine awp_seq_k fun K hK => ?_
    | refine wkA ?_
    | refine dL 11 [] [11] [0, 1, 2, 3, 4, 5, 6, 7, 8, 9, 10, 11, 12, 13] mixed ?_
    | refine dL 12 [] [11] [0, 1, 2, 3, 4, 5, 6, 7, 8, 9, 10, 11, 12, 13] mixed ?_
    | (refine hK _ _ ?_; clear hK K)
    | (refine wcond (fun hc => ?_) (fun hc => ?_) <;> first | contradiction | (exfalso; omega) | skip)
    | refine cp (shown_c) ?_
    | refine cp (short_c _) ?_
    | refine cp (hs) ?_
    | refine wkB ?_
    | exact True.intro
    | (clear hK K))); all_goals (try clear W)
    (refine retd [.tmp 4] ?_; try simp only [go_sem])
end Go.Proofs.YtbpmikjlfgfbmaaGreatDoor

/- The law EvalAll: what it says is so. No conditions. -/
import Derived.Test.YtbpmikjlfgfbmaaGreatDoorLeG
set_option linter.all false
namespace Go.Proofs.YtbpmikjlfgfbmaaGreatDoor
open Go Go.Gd
set_option maxHeartbeats 4000000
set_option maxRecDepth 10000
theorem isX_E {n : GNode} (h : isX n = true) : isE n.kind := by
  unfold isX at h
  simpa [isE] using h
theorem evalAll_c (s : ByteArray) (m : GMem) : PCall Tryz.prog 3 [rS s, .agg (eMem m)] (rB true) := by
  have l1 := fewS_len m.slots
  have l2 := fewH_len m.heap
  have hs := source_c (shortF s) (short_size s)
  have hok := @source_ok (shortF s)
  generalize sourceF (shortF s) = R at hs hok
  obtain ⟨p, x, e⟩ := R
  simp only at hs hok
  by_cases he : e = 0
  · have hp := hok he
    have hx : ∀ k, k < p.tree.nodes.length → isX (nth p.tree.nodes k) = true → _ := fun k hk hx => Expr_c hp (fewS m.slots) (fewH m.heap) (by omega) (k + 1) k (by omega) (by omega) (by omega) (isX_E hx)
    have hr : ∀ k, k < p.tree.nodes.length → isX (nth p.tree.nodes k) = true → _ := fun k hk hx => expr6_c hp (fewS m.slots) (fewH m.heap) (by omega) (k + 1) k (by omega) (by omega) (by omega) (isX_E hx)
    have hmany := hp.tree.many
    refine entP Tryz.func3 Tryz.ntmps3 ?_
    (have W := he; repeat' (first
    | refine awp_seq_k fun K hK => ?_
    | refine wkA ?_
    | (refine hK _ _ ?_; clear hK K)
    | (refine wcond (fun hc => ?_) (fun hc => ?_) <;> first | contradiction | (exfalso; omega) | skip)
    | refine cp (shown_c) ?_
    | refine cp (short_c _) ?_
    | refine cp (hs) ?_
    | refine cp (few_c _) ?_
    | refine wkB ?_
    | exact True.intro
    | (clear hK K))); all_goals (try clear W)
    have hKo := hK; clear hK
    refine awp_loop_inv (S := Nat) [(4, 1), (11, 6), (33, 41)] (fun k => k ≤ p.tree.nodes.length) (fun k => [(11, rI k)]) (fun k => ⟨[], [(0, .var 25 (eMem m)), (1, .var 33 (eGProg p))]⟩) (fun k => p.tree.nodes.length - k) 0 (by omega) (fle_at (by simp only [go_sem]) lle) ?_
    rintro k hk1 Kr hKr
    (refine S ?_; try exact True.intro)
    by_cases hlt : k < p.tree.nodes.length
    · cases hi : isX (nth p.tree.nodes k) with
      | true =>
        have hX := hx k hlt hi
        have hR := hr k hlt hi
        generalize exprV p (fewS m.slots) (fewH m.heap) (k + 1) k = V at hX hR
        (have W := hi; repeat' (first
    | refine awp_seq_k fun K hK => ?_
    | refine wkA ?_
    | (refine hK _ _ ?_; clear hK K)
    | (refine wcond (fun hc => ?_) (fun hc => ?_) <;> first | contradiction | (exfalso; omega) | skip)
    | (refine hKo _ _ ?_)
    | refine cp (hX) ?_
    | refine cp (hR) ?_
    | refine cp (is6_c _) ?_
    | refine wkB ?_
    | exact True.intro
    | (clear hK K))); all_goals (try clear W)
        refine hKr _ _ (next_drop [2, 3] (k + 1) (by omega) (by (try simp only); omega) rfl Sd (by simp only [go_sem]; (try rfl)) vtl)
      | false =>
        (have W := hi; repeat' (first
    | refine awp_seq_k fun K hK => ?_
    | refine wkA ?_
    | (refine hK _ _ ?_; clear hK K)
    | (refine wcond (fun hc => ?_) (fun hc => ?_) <;> first | contradiction | (exfalso; omega) | skip)
    | (refine hKo _ _ ?_)
    | refine cp (is6_c _) ?_
    | refine wkB ?_
    | exact True.intro
    | (clear hK K))); all_goals (try clear W)
        refine hKr _ _ (next_mk (k + 1) (by omega) (by (try simp only); omega) (by simp only [go_sem]) lle)
    · have hke : k = p.tree.nodes.length := by omega
      (repeat' (first
    | refine awp_seq_k fun K hK => ?_
    | refine wkA ?_
    | (refine hK _ _ ?_; clear hK K)
    | (refine wcond (fun hc => ?_) (fun hc => ?_) <;> first | contradiction | (exfalso; omega) | skip)
    | (refine hKo _ _ ?_)
    | refine wkB ?_
    | exact True.intro
    | (clear hK K)))
      (refine retd [.tmp 4] ?_; try simp only [go_sem])
  · refine entP Tryz.func3 Tryz.ntmps3 ?_
    (have W := he; repeat' (first
    | refine awp_seq_k fun K hK => ?_
    | refine wkA ?_
    | (refine hK _ _ ?_; clear hK K)
    | (refine wcond (fun hc => ?_) (fun hc => ?_) <;> first | contradiction | (exfalso; omega) | skip)
    | refine cp (shown_c) ?_
    | refine cp (short_c _) ?_
    | refine cp (hs) ?_
    | refine wkB ?_
    | exact True.intro
    | (clear hK K))); all_goals (try clear W)
    (refine retd [.tmp 4] ?_; try simp only [go_sem])
end Go.Proofs.YtbpmikjlfgfbmaaGreatDoor

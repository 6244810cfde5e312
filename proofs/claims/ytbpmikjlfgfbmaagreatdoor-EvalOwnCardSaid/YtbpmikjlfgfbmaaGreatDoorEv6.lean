/- What expressions tell: the program's. What expressions tell: the program's, whole. No conditions. -/
import Derived.Test.YtbpmikjlfgfbmaaGreatDoorEv4
set_option linter.all false
namespace Go.Proofs.YtbpmikjlfgfbmaaGreatDoor
open Go Go.Gd
set_option maxHeartbeats 4000000
set_option maxRecDepth 10000
def EExprC (p : GProg) (slots : List GValue) (heap : List (List Int)) (n : Nat) : Prop := ∀ (a tr : Int), 0 ≤ a → a < p.tree.nodes.length → a.toNat < n → isE (kindAt p.tree.nodes a) →
  ACalls Tryz.prog 23 [.pt 0 0 0 0, rI a] [(0, lkRow p slots heap tr)] (fun r l' => r = rV (if tr = 0 then (exprV p slots heap n a).1 else v0) ∧ l' = [(0, lkRow p slots heap (if tr = 0 then (exprV p slots heap n a).2 else tr))])
theorem index_c {p : GProg} (h : POk p) (slots : List GValue) (heap : List (List Int)) (hh : heap.length ≤ 1000000) (n : Nat) (ih : EExprC p slots heap n) (a : Int) (h0 : 0 ≤ a) (h1 : a < p.tree.nodes.length) (hn : a.toNat ≤ n) (hk : (nth p.tree.nodes a.toNat).kind = 5) :
    ACalls Tryz.prog 44 [.pt 0 0 0 0, rI a] [(0, lkRow p slots heap 0)] (fun r l' => r = rV (indexV p slots heap (exprV p slots heap n (nth (nth p.tree.nodes a.toNat).l 0)) a).1 ∧ l' = [(0, lkRow p slots heap (indexV p slots heap (exprV p slots heap n (nth (nth p.tree.nodes a.toNat).l 0)) a).2)]) := by
  have sh := h.tree.shape a.toNat (by omega)
  obtain ⟨x, hl, hx⟩ := sh.1.one (by omega)
  have hlen : (nth p.tree.nodes a.toNat).l.length = 1 := by rw [hl]; rfl
  have hx' : nth (nth p.tree.nodes a.toNat).l 0 = x := by rw [hl]; rfl
  have hb := sh.2.1 x (by rw [hl]; simp)
  have hc1 := ih x 0 hb.1 (by omega) (by omega) hx
  rw [hx']
  generalize exprV p slots heap n x = X at hc1 ⊢
  rw [if_pos rfl, if_pos rfl] at hc1
  have hth := then3_c p slots heap X.2 (indexV p slots heap (X.1, 0) a).2 (indexV p slots heap (X.1, 0) a).1 (f := 61) (cs := [.pt 1 0 0 0, .pt 2 0 0 0, .pt 3 0 0 0]) (t1 := 61) (c1 := [.pt 0 0 0 0]) (t2 := 3) (c2 := [rI a]) (t3 := 44) (c3 := eGValue X.1) Sd Sd Sd Sd Sd
    (fun e => by rw [e]; exact index1_c h slots heap hh X.1 a h0 h1)
  have e1 : (if X.2 = 0 then (indexV p slots heap (X.1, 0) a).1 else v0) = (indexV p slots heap X a).1 := by
    obtain ⟨v, t⟩ := X
    by_cases ht : t = 0
    · subst ht; rfl
    · show (if t = 0 then _ else _) = _
      rw [if_neg ht]; unfold indexV; rw [if_pos ht]
  have e2 : (if X.2 = 0 then (indexV p slots heap (X.1, 0) a).2 else X.2) = (indexV p slots heap X a).2 := by
    obtain ⟨v, t⟩ := X
    by_cases ht : t = 0
    · subst ht; rfl
    · show (if t = 0 then _ else _) = _
      rw [if_neg ht]; unfold indexV; rw [if_pos ht]
  rw [e1, e2] at hth
  refine entM Tryz.func44 Tryz.ntmps44 ?_
  (refine S ?_; try exact True.intro)
  (have W := And.intro hlen (hx'); repeat' (first
    | refine awp_seq_k fun K hK => ?_
    | refine wkA ?_
    | refine dL 1 [] [14] [0, 1, 2, 3, 4, 5, 6, 7, 8, 9, 10, 11, 12, 13, 14, 15] mixed ?_
    | (refine hK _ _ ?_; clear hK K)
    | (refine wcond (fun hc => ?_) (fun hc => ?_) <;> first | contradiction | (exfalso; omega) | skip)
    | refine al 9 ?_
    | refine al 3 ?_
    | refine cm (hc1) ?_
    | refine cm (hth) ?_
    | refine wkB ?_
    | exact True.intro
    | (clear hK K))); all_goals (try clear W)
  (refine retd [.cell 4 44] ?_; try simp only [go_sem])
theorem binX_late {s : ByteArray} {X Y : GValue × Int} (hX : X.2 = 0) (hne : ¬((s = (⟨#[124, 124]⟩ : ByteArray) ∧ X.1.n = 1) ∨ (s = (⟨#[38, 38]⟩ : ByteArray) ∧ X.1.n = 0))) : binX s X Y = if Y.2 ≠ 0 then (v0, Y.2) else binV s X.1 Y.1 := by unfold binX; rw [if_neg (by omega), if_neg hne]
theorem bin_e_c {p : GProg} (h : POk p) (slots : List GValue) (heap : List (List Int)) (n : Nat) (ih : EExprC p slots heap n) (a : Int) (h0 : 0 ≤ a) (h1 : a < p.tree.nodes.length) (hn : a.toNat ≤ n) (hk : (nth p.tree.nodes a.toNat).kind = 9) :
    ACalls Tryz.prog 45 [.pt 0 0 0 0, .agg (eGNode (nth p.tree.nodes a.toNat))] [(0, lkRow p slots heap 0)] (fun r l' => r = rV (binX (nth p.tree.nodes a.toNat).name (exprV p slots heap n (nth (nth p.tree.nodes a.toNat).l 0)) (exprV p slots heap n (nth (nth p.tree.nodes a.toNat).l 1))).1 ∧ l' = [(0, lkRow p slots heap (binX (nth p.tree.nodes a.toNat).name (exprV p slots heap n (nth (nth p.tree.nodes a.toNat).l 0)) (exprV p slots heap n (nth (nth p.tree.nodes a.toNat).l 1))).2)]) := by
  have sh := h.tree.shape a.toNat (by omega)
  obtain ⟨x, y, hl, hx, hy⟩ := sh.1.two (by omega)
  have hlen : (nth p.tree.nodes a.toNat).l.length = 2 := by rw [hl]; rfl
  have hx' : nth (nth p.tree.nodes a.toNat).l 0 = x := by rw [hl]; rfl
  have hy' : nth (nth p.tree.nodes a.toNat).l 1 = y := by rw [hl]; rfl
  have hb := sh.2.1 x (by rw [hl]; simp)
  have hb2 := sh.2.1 y (by rw [hl]; simp)
  have hc1 := ih x 0 hb.1 (by omega) (by omega) hx
  have hc2 := ih y (exprV p slots heap n x).2 hb2.1 (by omega) (by omega) hy
  have o1 := expr_ok h slots heap n x hb.1 (by omega) (by omega) hx
  have o2 := expr_ok h slots heap n y hb2.1 (by omega) (by omega) hy
  have s1 := o1.size
  have s2 := o2.size
  rw [hx', hy']
  generalize exprV p slots heap n x = X at hc1 hc2 o1 s1 ⊢
  generalize exprV p slots heap n y = Y at hc2 o2 s2 ⊢
  rw [if_pos rfl, if_pos rfl] at hc1
  by_cases hX : X.2 = 0
  · rw [if_pos hX, if_pos hX] at hc2
    rw [hX] at hc1 hc2
    have hth := then4_c p slots heap Y.2 (binV (nth p.tree.nodes a.toNat).name X.1 Y.1).2 (binV (nth p.tree.nodes a.toNat).name X.1 Y.1).1 (f := 63) (cs := [.pt 2 0 0 0, .pt 3 0 0 0, .pt 4 0 0 0, .pt 1 0 0 0]) (t1 := 61) (c1 := [.pt 0 0 0 0]) (t2 := 42) (c2 := eGNode (nth p.tree.nodes a.toNat)) (t3 := 44) (c3 := eGValue X.1) (t4 := 44) (c4 := eGValue Y.1) Sd Sd Sd Sd Sd Sd
      (fun e => by rw [e]; exact bin1_c p slots heap (nth p.tree.nodes a.toNat) X.1 Y.1 (by omega) (by omega))
    have hE : ((nth p.tree.nodes a.toNat).name = (⟨#[124, 124]⟩ : ByteArray) ∧ X.1 = vB true ∨ (nth p.tree.nodes a.toNat).name = (⟨#[38, 38]⟩ : ByteArray) ∧ X.1 = vB false) ↔ (((nth p.tree.nodes a.toNat).name = (⟨#[124, 124]⟩ : ByteArray) ∧ X.1.n = 1) ∨ ((nth p.tree.nodes a.toNat).name = (⟨#[38, 38]⟩ : ByteArray) ∧ X.1.n = 0)) := by
      obtain ⟨t5, t6⟩ := (h.ty a.toNat (by omega) (by omega)).bin hk
      rw [t5, hx', hy'] at t6
      have key : ((nth p.tree.nodes a.toNat).name = (⟨#[124, 124]⟩ : ByteArray) ∨ (nth p.tree.nodes a.toNat).name = (⟨#[38, 38]⟩ : ByteArray)) → ∀ b, X.1.n = (vB b).n → X.1 = vB b := fun hs b hb => by
        obtain ⟨_, g2, _⟩ := binT_logic hs t6
        obtain ⟨q1, q2⟩ := told_ok o1 hX
        rw [g2] at q1
        unfold mayV at q2
        rw [if_neg (by omega), if_pos q1] at q2
        simp only [Bool.and_eq_true, decide_eq_true_eq] at q2
        obtain ⟨⟨ty, nn, ss⟩, tt⟩ := X
        simp only at q1 q2 hb
        rw [q1, hb, q2.1]; rfl
      constructor
      · rintro (⟨e1, e2⟩ | ⟨e1, e2⟩)
        · exact .inl ⟨e1, by rw [e2]; rfl⟩
        · exact .inr ⟨e1, by rw [e2]; rfl⟩
      · rintro (⟨e1, e2⟩ | ⟨e1, e2⟩)
        · exact .inl ⟨e1, key (.inl e1) true e2⟩
        · exact .inr ⟨e1, key (.inr e1) false e2⟩
    refine entM Tryz.func45 Tryz.ntmps45 ?_
    (refine S ?_; try exact True.intro)
    (have W := And.intro hlen (And.intro hx' (hy')); repeat' (first
    | refine awp_seq_k fun K hK => ?_
    | refine wkA ?_
    | refine dL 1 [] [6] [0, 1, 2, 3, 4, 5, 6, 7] mixed ?_
    | refine dE 2 [0, 1, 2, 3, 4, 5, 6, 7, 8, 9, 10, 11, 12, 13, 14, 15, 16, 17] mixed ?_
    | refine dL 4 [] [6] [0, 1, 2, 3, 4, 5, 6, 7] mixed ?_
    | (refine hK _ _ ?_; clear hK K)
    | (refine wcond (fun hc => ?_) (fun hc => ?_) <;> first | contradiction | (exfalso; omega) | skip)
    | refine al 9 ?_
    | refine al 3 ?_
    | refine al 4 ?_
    | refine cm (hc1) ?_
    | refine cm (hc2) ?_
    | (first | refine cg (bool_c _) ?_ | refine cg' (bool_c _) ?_)
    | refine cm (hth) ?_
    | refine wkB ?_
    | exact True.intro
    | (clear hK K))); all_goals (try clear W)
    · rw [show binX (nth p.tree.nodes a.toNat).name X Y = (X.1, 0) from by unfold binX; rw [if_neg (fun h => h hX), if_pos (hE.1 hc)]]
      (refine retd [.cell 4 44] ?_; try simp only [go_sem])
    · have hne : ¬((nth p.tree.nodes a.toNat).name = (⟨#[124, 124]⟩ : ByteArray) ∧ X.1 = vB true ∨ (nth p.tree.nodes a.toNat).name = (⟨#[38, 38]⟩ : ByteArray) ∧ X.1 = vB false) := fun k => (no_both hc k).elim
      have e1 : (if Y.2 = 0 then (binV (nth p.tree.nodes a.toNat).name X.1 Y.1).1 else v0) = (binX (nth p.tree.nodes a.toNat).name X Y).1 := by
        rw [binX_late hX fun k => hne (hE.2 k)]
        by_cases hy0 : Y.2 = 0
        · rw [if_pos hy0, if_neg (fun h => h hy0)]
        · rw [if_neg hy0, if_pos hy0]
      have e2 : (if Y.2 = 0 then (binV (nth p.tree.nodes a.toNat).name X.1 Y.1).2 else Y.2) = (binX (nth p.tree.nodes a.toNat).name X Y).2 := by
        rw [binX_late hX fun k => hne (hE.2 k)]
        by_cases hy0 : Y.2 = 0
        · rw [if_pos hy0, if_neg (fun h => h hy0)]
        · rw [if_neg hy0, if_pos hy0]
      rw [← e1, ← e2]
      (refine retd [.cell 4 44] ?_; try simp only [go_sem])
  · rw [if_neg hX, if_neg hX] at hc2
    have hX1 : X.1 = v0 := by
      rcases o1 with o | o
      · exact (hX o.1).elim
      · exact o.2
    have hth := then4_c p slots heap X.2 0 v0 (f := 63) (cs := [.pt 2 0 0 0, .pt 3 0 0 0, .pt 4 0 0 0, .pt 1 0 0 0]) (t1 := 61) (c1 := [.pt 0 0 0 0]) (t2 := 42) (c2 := eGNode (nth p.tree.nodes a.toNat)) (t3 := 44) (c3 := eGValue v0) (t4 := 44) (c4 := eGValue v0) Sd Sd Sd Sd Sd Sd (fun e => (hX e).elim)
    rw [if_neg hX, if_neg hX] at hth
    rw [show binX (nth p.tree.nodes a.toNat).name X Y = (v0, X.2) from by unfold binX; rw [if_pos hX]]
    rw [hX1] at hc1
    refine entM Tryz.func45 Tryz.ntmps45 ?_
    (refine S ?_; try exact True.intro)
    (have W := And.intro hlen (And.intro hx' (hy')); repeat' (first
    | refine awp_seq_k fun K hK => ?_
    | refine wkA ?_
    | refine dL 1 [] [6] [0, 1, 2, 3, 4, 5, 6, 7] mixed ?_
    | refine dE 2 [0, 1, 2, 3, 4, 5, 6, 7, 8, 9, 10, 11, 12, 13, 14, 15, 16, 17] mixed ?_
    | refine dL 4 [] [6] [0, 1, 2, 3, 4, 5, 6, 7] mixed ?_
    | (refine hK _ _ ?_; clear hK K)
    | (refine wcond (fun hc => ?_) (fun hc => ?_) <;> first | contradiction | (exfalso; omega) | skip)
    | refine al 9 ?_
    | refine al 3 ?_
    | refine al 4 ?_
    | refine cm (hc1) ?_
    | refine cm (hc2) ?_
    | (first | refine cg (bool_c _) ?_ | refine cg' (bool_c _) ?_)
    | refine cm (hth) ?_
    | refine wkB ?_
    | exact True.intro
    | (clear hK K))); all_goals (try clear W)
    · exfalso; revert hc; rintro (⟨_, h⟩ | ⟨_, h⟩) <;> revert h <;> decide
    · (refine retd [.cell 4 44] ?_; try simp only [go_sem])
end Go.Proofs.YtbpmikjlfgfbmaaGreatDoor

namespace Go.Proofs.YtbpmikjlfgfbmaaGreatDoor
open Go Go.Gd
set_option maxHeartbeats 4000000
set_option maxRecDepth 10000
theorem expr1_c {p : GProg} (h : POk p) (slots : List GValue) (heap : List (List Int)) (hh : heap.length ≤ 1000000) (n : Nat) (ih : EExprC p slots heap n) (a : Int) (h0 : 0 ≤ a) (h1 : a < p.tree.nodes.length) (hn : a.toNat ≤ n) (hk : isE (kindAt p.tree.nodes a)) :
    ACalls Tryz.prog 40 [.pt 3 0 0 0, .pt 1 0 0 0, .pt 2 0 0 0] [(0, lkRow p slots heap 0), (1, .var 61 [.pt 0 0 0 0]), (2, .var 3 [rI a]), (3, .var 42 (eGNode (nth p.tree.nodes a.toNat)))]
      (fun r l' => r = rV (exprV p slots heap (n + 1) a).1 ∧ l' = [(0, lkRow p slots heap (exprV p slots heap (n + 1) a).2), (1, .var 61 [.pt 0 0 0 0]), (2, .var 3 [rI a]), (3, .var 42 (eGNode (nth p.tree.nodes a.toNat)))]) := by
  have sh := h.tree.shape a.toNat (by omega)
  have hsl := h.slots
  have hty := h.types
  have hkr : (nth p.tree.nodes a.toNat).kind = 1 ∨ (nth p.tree.nodes a.toNat).kind = 2 ∨ (nth p.tree.nodes a.toNat).kind = 3 ∨ (nth p.tree.nodes a.toNat).kind = 4 ∨ (nth p.tree.nodes a.toNat).kind = 5 ∨ (nth p.tree.nodes a.toNat).kind = 9 ∨ ((nth p.tree.nodes a.toNat).kind = 6 ∨ (nth p.tree.nodes a.toNat).kind = 7 ∨ (nth p.tree.nodes a.toNat).kind = 8) := by
    have : isE (nth p.tree.nodes a.toNat).kind := hk
    unfold isE at this
    omega
  rcases hkr with k | k | k | k | k | k | k
  · rw [show exprV p slots heap (n + 1) a = (vI (nth p.tree.nodes a.toNat).n, 0) from by unfold exprV; simp only; rw [k]; rfl]
    refine entM Tryz.func40 Tryz.ntmps40 ?_
    (refine S ?_; try exact True.intro)
    (have W := k; repeat' (first
    | refine awp_seq_k fun K hK => ?_
    | refine wkA ?_
    | refine dE 9 [0, 1, 2, 3, 4, 5, 6, 7, 8, 9, 10, 11, 12, 13, 14, 15, 16, 17, 18, 19, 20, 21] mixed ?_
    | refine dL 14 [] [6] [0, 1, 2, 3, 4, 5, 6, 7] mixed ?_
    | (refine hK _ _ ?_; clear hK K)
    | (refine wcond (fun hc => ?_) (fun hc => ?_) <;> first | contradiction | (exfalso; omega) | skip)
    | refine cp (int_c _) ?_
    | refine wkB ?_
    | exact True.intro
    | (clear hK K))); all_goals (try clear W)
    (refine retd [.cell 3 44] ?_; try simp only [go_sem])
  · rw [show exprV p slots heap (n + 1) a = (vB (decide ((nth p.tree.nodes a.toNat).n = 1)), 0) from by unfold exprV; simp only; rw [k]; rfl]
    refine entM Tryz.func40 Tryz.ntmps40 ?_
    (refine S ?_; try exact True.intro)
    (have W := k; repeat' (first
    | refine awp_seq_k fun K hK => ?_
    | refine wkA ?_
    | refine dE 9 [0, 1, 2, 3, 4, 5, 6, 7, 8, 9, 10, 11, 12, 13, 14, 15, 16, 17, 18, 19, 20, 21] mixed ?_
    | refine dL 14 [] [6] [0, 1, 2, 3, 4, 5, 6, 7] mixed ?_
    | (refine hK _ _ ?_; clear hK K)
    | (refine wcond (fun hc => ?_) (fun hc => ?_) <;> first | contradiction | (exfalso; omega) | skip)
    | refine cp (bool_c _) ?_
    | refine wkB ?_
    | exact True.intro
    | (clear hK K))); all_goals (try clear W)
    (refine retd [.cell 3 44] ?_; try simp only [go_sem])
  · rw [show exprV p slots heap (n + 1) a = (vT (nth p.tree.nodes a.toNat).name, 0) from by unfold exprV; simp only; rw [k]; rfl]
    refine entM Tryz.func40 Tryz.ntmps40 ?_
    (refine S ?_; try exact True.intro)
    (have W := k; repeat' (first
    | refine awp_seq_k fun K hK => ?_
    | refine wkA ?_
    | refine dE 9 [0, 1, 2, 3, 4, 5, 6, 7, 8, 9, 10, 11, 12, 13, 14, 15, 16, 17, 18, 19, 20, 21] mixed ?_
    | refine dL 14 [] [6] [0, 1, 2, 3, 4, 5, 6, 7] mixed ?_
    | (refine hK _ _ ?_; clear hK K)
    | (refine wcond (fun hc => ?_) (fun hc => ?_) <;> first | contradiction | (exfalso; omega) | skip)
    | refine cp (vtext_c _) ?_
    | refine wkB ?_
    | exact True.intro
    | (clear hK K))); all_goals (try clear W)
    (refine retd [.cell 3 44] ?_; try simp only [go_sem])
  · rw [show exprV p slots heap (n + 1) a = (getV slots (nth p.slots a.toNat) (nth p.types a.toNat), 0) from by unfold exprV; simp only; rw [k]; rfl]
    refine entM Tryz.func40 Tryz.ntmps40 ?_
    (refine S ?_; try exact True.intro)
    (have W := k; repeat' (first
    | refine awp_seq_k fun K hK => ?_
    | refine wkA ?_
    | refine dE 9 [0, 1, 2, 3, 4, 5, 6, 7, 8, 9, 10, 11, 12, 13, 14, 15, 16, 17, 18, 19, 20, 21] mixed ?_
    | refine dL 14 [] [6] [0, 1, 2, 3, 4, 5, 6, 7] mixed ?_
    | (refine hK _ _ ?_; clear hK K)
    | (refine wcond (fun hc => ?_) (fun hc => ?_) <;> first | contradiction | (exfalso; omega) | skip)
    | refine al 9 ?_
    | refine cp (get_c _ _ _) ?_
    | refine cq (get_c _ _ _) ?_
    | refine wkB ?_
    | exact True.intro
    | (clear hK K))); all_goals (try clear W)
    (refine retd [.cell 3 44] ?_; try simp only [go_sem])
  · have hi := index_c h slots heap hh n ih a h0 h1 (by omega) k
    rw [exprV5 slots heap n k]
    refine entM Tryz.func40 Tryz.ntmps40 ?_
    (refine S ?_; try exact True.intro)
    (have W := k; repeat' (first
    | refine awp_seq_k fun K hK => ?_
    | refine wkA ?_
    | refine dE 9 [0, 1, 2, 3, 4, 5, 6, 7, 8, 9, 10, 11, 12, 13, 14, 15, 16, 17, 18, 19, 20, 21] mixed ?_
    | refine dL 14 [] [6] [0, 1, 2, 3, 4, 5, 6, 7] mixed ?_
    | (refine hK _ _ ?_; clear hK K)
    | (refine wcond (fun hc => ?_) (fun hc => ?_) <;> first | contradiction | (exfalso; omega) | skip)
    | refine al 9 ?_
    | refine cm (hi) ?_
    | refine wkB ?_
    | exact True.intro
    | (clear hK K))); all_goals (try clear W)
    (refine retd [.cell 3 44] ?_; try simp only [go_sem])
  · have hi := bin_e_c h slots heap n ih a h0 h1 (by omega) k
    rw [exprV9 slots heap n k]
    refine entM Tryz.func40 Tryz.ntmps40 ?_
    (refine S ?_; try exact True.intro)
    (have W := k; repeat' (first
    | refine awp_seq_k fun K hK => ?_
    | refine wkA ?_
    | refine dE 9 [0, 1, 2, 3, 4, 5, 6, 7, 8, 9, 10, 11, 12, 13, 14, 15, 16, 17, 18, 19, 20, 21] mixed ?_
    | refine dL 14 [] [6] [0, 1, 2, 3, 4, 5, 6, 7] mixed ?_
    | (refine hK _ _ ?_; clear hK K)
    | (refine wcond (fun hc => ?_) (fun hc => ?_) <;> first | contradiction | (exfalso; omega) | skip)
    | refine al 9 ?_
    | refine cm (hi) ?_
    | refine wkB ?_
    | exact True.intro
    | (clear hK K))); all_goals (try clear W)
    (refine retd [.cell 3 44] ?_; try simp only [go_sem])
  · obtain ⟨x, hl, hx⟩ := sh.1.one (by omega)
    have hlen : (nth p.tree.nodes a.toNat).l.length = 1 := by rw [hl]; rfl
    have hx' : nth (nth p.tree.nodes a.toNat).l 0 = x := by rw [hl]; rfl
    have hb := sh.2.1 x (by rw [hl]; simp)
    have hc1 := ih x 0 hb.1 (by omega) (by omega) hx
    have k1 : ¬ (nth p.tree.nodes a.toNat).kind = 1 := by omega
    have k2 : ¬ (nth p.tree.nodes a.toNat).kind = 2 := by omega
    have k3 : ¬ (nth p.tree.nodes a.toNat).kind = 3 := by omega
    have k4 : ¬ (nth p.tree.nodes a.toNat).kind = 4 := by omega
    have k5 : ¬ (nth p.tree.nodes a.toNat).kind = 5 := by omega
    have k9 : ¬ (nth p.tree.nodes a.toNat).kind = 9 := by omega
    rw [exprV1 slots heap n k, hx']
    generalize exprV p slots heap n x = X at hc1 ⊢
    rw [if_pos rfl, if_pos rfl] at hc1
    have hth := then4_c p slots heap X.2 0 (signX heap (nth p.tree.nodes a.toNat).kind X.1) (f := 46) (cs := [.pt 3 0 0 0, .pt 1 0 0 0, .pt 4 0 0 0]) (t1 := 61) (c1 := [.pt 0 0 0 0]) (t2 := 3) (c2 := [rI a]) (t3 := 42) (c3 := eGNode (nth p.tree.nodes a.toNat)) (t4 := 44) (c4 := eGValue X.1) Sd Sd Sd Sd Sd Sd
      (fun e => by rw [e]; exact expr11_c p slots heap hh a (nth p.tree.nodes a.toNat) X.1)
    have e1 : (if X.2 = 0 then signX heap (nth p.tree.nodes a.toNat).kind X.1 else v0) = (oneV heap (nth p.tree.nodes a.toNat).kind X).1 := by
      by_cases hX : X.2 = 0
      · rw [if_pos hX]
        unfold oneV signX longV
        rw [if_neg (c := X.2 ≠ 0) (fun h => h hX)]
        rcases k with k | k | k <;> rw [k] <;> first | rfl | (rw [if_pos rfl, if_pos rfl]; by_cases h3 : X.1.ty = 3; rw [if_pos h3, if_pos h3]; rw [if_neg h3, if_neg h3])
      · rw [if_neg hX]
        unfold oneV
        rw [if_pos hX]
    have e2 : (if X.2 = 0 then 0 else X.2) = (oneV heap (nth p.tree.nodes a.toNat).kind X).2 := by
      by_cases hX : X.2 = 0
      · rw [if_pos hX]
        unfold oneV
        rw [if_neg (c := X.2 ≠ 0) (fun h => h hX)]
        (repeat' split) <;> rfl
      · rw [if_neg hX]
        unfold oneV
        rw [if_pos hX]
    rw [e1, e2] at hth
    refine entM Tryz.func40 Tryz.ntmps40 ?_
    (refine S ?_; try exact True.intro)
    (have W := And.intro k1 (And.intro k2 (And.intro k3 (And.intro k4 (And.intro k5 (And.intro k9 (And.intro hlen (hx'))))))); repeat' (first
    | refine awp_seq_k fun K hK => ?_
    | refine wkA ?_
    | refine dE 9 [0, 1, 2, 3, 4, 5, 6, 7, 8, 9, 10, 11, 12, 13, 14, 15, 16, 17, 18, 19, 20, 21] mixed ?_
    | refine dL 14 [] [6] [0, 1, 2, 3, 4, 5, 6, 7] mixed ?_
    | (refine hK _ _ ?_; clear hK K)
    | (refine wcond (fun hc => ?_) (fun hc => ?_) <;> first | contradiction | (exfalso; omega) | skip)
    | refine al 9 ?_
    | refine al 4 ?_
    | refine cm (hc1) ?_
    | refine cm (hth) ?_
    | refine wkB ?_
    | exact True.intro
    | (clear hK K))); all_goals (try clear W)
    (refine retd [.cell 3 44] ?_; try simp only [go_sem])
theorem look_c {p : GProg} (h : POk p) (slots : List GValue) (heap : List (List Int)) (hh : heap.length ≤ 1000000) : ∀ n, EExprC p slots heap n
  | 0 => fun a tr _ _ hn _ => by omega
  | n + 1 => fun a tr h0 h1 hn hk => by
    have ih := look_c h slots heap hh n
    have hth := then3_c p slots heap tr (exprV p slots heap (n + 1) a).2 (exprV p slots heap (n + 1) a).1 (f := 40) (cs := [.pt 3 0 0 0, .pt 1 0 0 0, .pt 2 0 0 0]) (t1 := 61) (c1 := [.pt 0 0 0 0]) (t2 := 3) (c2 := [rI a]) (t3 := 42) (c3 := eGNode (nth p.tree.nodes a.toNat)) Sd Sd Sd Sd Sd
      (fun e => by rw [e]; exact expr1_c h slots heap hh n ih a h0 h1 (by omega) hk)
    refine entM Tryz.func23 Tryz.ntmps23 ?_
    (refine S ?_; try exact True.intro)
    (repeat' (first
    | refine awp_seq_k fun K hK => ?_
    | refine wkA ?_
    | refine dE 1 [0, 1, 2, 3, 4, 5, 6, 7, 8, 9, 10] mixed ?_
    | (refine hK _ _ ?_; clear hK K)
    | (refine wcond (fun hc => ?_) (fun hc => ?_) <;> first | contradiction | (exfalso; omega) | skip)
    | refine al 9 ?_
    | refine al 3 ?_
    | refine cm (hth) ?_
    | refine wkB ?_
    | exact True.intro
    | (clear hK K)))
    (refine retd [.cell 4 44] ?_; try simp only [go_sem])
theorem Expr_c {p : GProg} (h : POk p) (slots : List GValue) (heap : List (List Int)) (hh : heap.length ≤ 1000000) (n : Nat) (a : Int) (h0 : 0 ≤ a) (h1 : a < p.tree.nodes.length) (hn : a.toNat < n) (hk : isE (kindAt p.tree.nodes a)) :
    PCall Tryz.prog 13 [rP p, rI a, rSl slots, rHp heap] (.tup [rV (exprV p slots heap n a).1, rI (exprV p slots heap n a).2]) := by
  have hx := look_c h slots heap hh n a 0 h0 h1 hn hk
  rw [if_pos rfl, if_pos rfl] at hx
  have ok := expr_ok h slots heap n a h0 h1 hn hk
  generalize exprV p slots heap n a = X at hx ok ⊢
  refine entP Tryz.func13 Tryz.ntmps13 ?_
  (repeat' (first
    | refine awp_seq_k fun K hK => ?_
    | refine wkA ?_
    | refine dA 4 [9] [0, 1, 2, 3, 4, 5, 6] mixed ?_
    | (refine hK _ _ ?_; clear hK K)
    | (refine wcond (fun hc => ?_) (fun hc => ?_) <;> first | contradiction | (exfalso; omega) | skip)
    | refine bx 7 ?_
    | refine bx 0 ?_
    | refine al 9 ?_
    | refine al 8 ?_
    | refine cm (hx) ?_
    | refine wkB ?_
    | exact True.intro
    | (clear hK K)))
  · have e : X.1 = v0 := by
      rcases ok with o | o
      · exact (hc o.1).elim
      · exact o.2
    rw [e]
    (refine retd [.cell 8 44, .tmp 9] ?_; try simp only [go_sem])
    rfl
  · rw [hc]
    (refine retd [.cell 8 44, .tmp 9] ?_; try simp only [go_sem])
end Go.Proofs.YtbpmikjlfgfbmaaGreatDoor

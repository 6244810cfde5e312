/- The document's checker: calls. The plain law of the document's checker: what looking at statements leaves as it was. No conditions. -/
import Derived.Test.YtbpmikjlfgfbmaaGreatDoorCk2
set_option linter.all false
namespace Go.Proofs.YtbpmikjlfgfbmaaGreatDoor
open Go Go.Gd
theorem types_nil1 (a : Int) (c : Ck) (ps : List GParam) : typesK a c [] ps = c := by cases ps <;> rfl
theorem types_nil2 (a : Int) (c : Ck) (ts : List Int) : typesK a c ts [] = c := by cases ts <;> rfl
theorem lastI_ge {α : Type} (f : α → ByteArray) (nm : ByteArray) : ∀ (l : List α) (i k : Int), 0 ≤ i → (lastI f nm l i k = k ∨ i ≤ lastI f nm l i k) ∧ (lastI f nm l i k = k ∨ lastI f nm l i k < i + l.length)
  | [], i, k, _ => by unfold lastI; exact ⟨.inl rfl, .inl rfl⟩
  | v :: l, i, k, hi => by
    unfold lastI
    obtain ⟨h1, h2⟩ := lastI_ge f nm l (i + 1) (if f v = nm then i else k) (by omega)
    simp only [List.length_cons]
    split at h1 <;> rename_i hv
    · rw [if_pos hv] at h2 ⊢
      omega
    · rw [if_neg hv] at h2 ⊢
      omega
set_option maxHeartbeats 4000000 in
set_option maxRecDepth 10000 in
theorem kcall_c (n : Nat) (hx : KExprC n) : KCallC n := by
  intro c a h h0 h1 hn hk
  have hz := h.size
  have hv := h.vars
  have htf := h.tree.fns
  have htm := h.tree.many
  obtain ⟨sh, hkid⟩ := ck_node h h0 h1
  have hck := h.tree.chain
  have hlen : (nth c.tree.nodes a.toNat).l.length ≤ 300 := ck_len h h0 h1
  have hkk : ∀ i, i < (c.node a).l.length → isR (c.node (nth (c.node a).l i)).kind ∧ (nth (c.node a).l i).toNat < n ∧ 0 ≤ nth (c.node a).l i ∧ nth (c.node a).l i < c.tree.nodes.length := fun i hi => by
    have hm : nth (c.node a).l i ∈ (c.node a).l := nth_mem hi
    have := hkid _ hm
    exact ⟨.inl (sh.call hk _ hm), by omega, this.1, by omega⟩
  obtain ⟨lg1, lg2⟩ := lastI_ge GFunc.name (c.node a).name c.tree.fns 0 (-1) (by omega)
  have lg1 : calleeK c a = -1 ∨ 0 ≤ calleeK c a := lg1
  have lg2 : calleeK c a = -1 ∨ calleeK c a < 0 + c.tree.fns.length := lg2
  refine entM Tryz.func97 Tryz.ntmps97 ?_
  (refine S ?_; try exact True.intro)
  (repeat' (first
    | refine awp_seq_k fun K hK => ?_
    | refine wkA ?_
    | refine dE 6 [0, 1, 2, 3, 4, 5, 6, 7, 8, 9, 10, 11, 12] mixed ?_
    | refine dE 23 [0, 1, 2, 3, 4, 5, 6, 7, 8, 9, 10, 11, 12, 13] mixed ?_
    | (refine hK _ _ ?_; clear hK K)
    | (refine wcond (fun hc => ?_) (fun hc => ?_) <;> first | contradiction | (exfalso; omega) | skip)
    | refine wkB ?_
    | exact True.intro
    | (clear hK K)))
  have hKo := hK; clear hK
  refine awp_loop_inv (S := Nat × Int) [(6, 2), (22, 25)] (fun s => s.1 ≤ c.tree.fns.length ∧ lastI GFunc.name (c.node a).name (c.tree.fns.drop s.1) s.1 s.2 = calleeK c a) (fun s => [(7, rI s.1), (6, rI s.2)]) (fun _ => ⟨[0, 1, 2, 3, 4, 5], encK c ++ [(6, .var 42 (eGNode (c.node a)))]⟩) (fun s => c.tree.fns.length - s.1) (0, -1) ⟨by (try simp only); omega, rfl⟩ (fle_at heq_ lle) ?_
  rintro ⟨k, j⟩ ⟨hk1, hk2⟩ Kr hKr
  simp only at hk1 hk2
  (refine S ?_; try exact True.intro)
  by_cases hlt : k < c.tree.fns.length
  · rw [drop_nth hlt] at hk2
    unfold lastI at hk2
    (repeat' (first
    | refine awp_seq_k fun K hK => ?_
    | refine wkA ?_
    | refine dE 6 [0, 1, 2, 3, 4, 5, 6, 7, 8, 9, 10, 11, 12] mixed ?_
    | refine dE 23 [0, 1, 2, 3, 4, 5, 6, 7, 8, 9, 10, 11, 12, 13] mixed ?_
    | (refine hK _ _ ?_; clear hK K)
    | (refine wcond (fun hc => ?_) (fun hc => ?_) <;> first | contradiction | (exfalso; omega) | skip)
    | (refine hKo _ _ ?_)
    | refine wkB ?_
    | exact True.intro
    | (clear hK K)))
    · rw [if_pos hc] at hk2
      refine hKr _ _ (next_mk (k + 1, (k : Int)) ⟨by (try simp only); omega, by rw [← hk2]; rfl⟩ (by (try simp only); omega) heq_ lle)
    · rw [if_neg hc] at hk2
      refine hKr _ _ (next_mk (k + 1, j) ⟨by (try simp only); omega, by rw [← hk2]; rfl⟩ (by (try simp only); omega) heq_ lle)
  · rw [List.drop_eq_nil_of_le (by omega)] at hk2
    have hk2 : j = calleeK c a := hk2
    subst hk2
    by_cases hneg : calleeK c a < 0
    · rw [callK, if_pos hneg] at *
      (repeat' (first
    | refine awp_seq_k fun K hK => ?_
    | refine wkA ?_
    | refine dE 6 [0, 1, 2, 3, 4, 5, 6, 7, 8, 9, 10, 11, 12] mixed ?_
    | refine dE 23 [0, 1, 2, 3, 4, 5, 6, 7, 8, 9, 10, 11, 12, 13] mixed ?_
    | (refine hK _ _ ?_; clear hK K)
    | (refine wcond (fun hc => ?_) (fun hc => ?_) <;> first | contradiction | (exfalso; omega) | skip)
    | (refine hKo _ _ ?_)
    | refine cm (kfails_c c 40 a) ?_
    | refine wkB ?_
    | exact True.intro
    | (clear hK K)))
      (refine retd [.tmp 4] ?_; try simp only [go_sem])
    · have hnn : 0 ≤ calleeK c a := by omega
      have hcn : (calleeK c a).toNat < c.tree.fns.length := by omega
      have hfp := (h.tree.fn _ (nth_mem hcn)).2
      have e0 : callK (exprK n) c a = (typesK a (if (c.node a).l.length ≠ (nth c.tree.fns (calleeK c a).toNat).params.length then (argsK (exprK n) c (c.node a).l []).1.fails 43 a else (argsK (exprK n) c (c.node a).l []).1) (argsK (exprK n) c (c.node a).l []).2 (nth c.tree.fns (calleeK c a).toNat).params, (nth c.tree.fns (calleeK c a).toNat).ret) := by
        rw [callK, if_neg hneg]
      (repeat' (first
    | refine awp_seq_k fun K hK => ?_
    | refine wkA ?_
    | refine dE 6 [0, 1, 2, 3, 4, 5, 6, 7, 8, 9, 10, 11, 12] mixed ?_
    | refine dE 23 [0, 1, 2, 3, 4, 5, 6, 7, 8, 9, 10, 11, 12, 13] mixed ?_
    | (refine hK _ _ ?_; clear hK K)
    | (refine wcond (fun hc => ?_) (fun hc => ?_) <;> first | contradiction | (exfalso; omega) | skip)
    | (refine hKo _ _ ?_)
    | refine wkB ?_
    | exact True.intro
    | (clear hK K)))
      have hKo2 := hK; clear hK
      refine awp_weak (FLe.nil 8 9 3 (sz := 1) rfl (by decide) (Or.inr ⟨_, _, _, rfl, rfl⟩)) ?_
      (refine S ?_; try exact True.intro)
      refine awp_loop_inv (S := Nat × Ck × List Int) [(9, 3), (62, 25)] (fun s => s.1 ≤ (c.node a).l.length ∧ Ev c s.2.1 ∧ s.2.2.length = s.1 ∧ argsK (exprK n) s.2.1 ((c.node a).l.drop s.1) s.2.2 = argsK (exprK n) c (c.node a).l []) (fun s => [(10, rI s.1), (9, .rs 8 s.2.2.length 1 s.2.2.length)]) (fun s => ⟨[0, 1, 2, 3, 4, 5], encK s.2.1 ++ [(6, .var 42 (eGNode (c.node a))), (7, .var 78 (eGFunc (nth c.tree.fns (calleeK c a).toNat))), (8, .vec 3 1 (s.2.2.map eI))]⟩) (fun s => (c.node a).l.length - s.1) (0, c, []) ⟨by (try simp only); omega, .refl c, rfl, rfl⟩ (fle_at heq_ lle) ?_
      rintro ⟨i, q, ts⟩ ⟨hi1, ev, hts, hA⟩ Kr2 hKr2
      simp only at hi1 ev hts hA
      have hq := h.ev ev
      have lt1 := hq.types
      have lt2 := hq.slots
      have lt3 := hq.fns
      have lt4 := hq.vars
      have lt5 := hq.size
      have hlq : (c.node a).l.length ≤ 300 := hlen
      (refine S ?_; try exact True.intro)
      by_cases hgo : i < (c.node a).l.length ∧ q.e = 0
      · obtain ⟨hg1, hg2⟩ := hgo
        rw [drop_nth hg1, argsK, if_pos hg2] at hA
        obtain ⟨g1, g2, g3, g4⟩ := hkk i hg1
        have hxc := hx q (nth (c.node a).l i) hq g3 (by rw [ev.tree]; exact g4) g2 (by rw [ev.node]; exact g1)
        (have W := hg2; repeat' (first
    | refine awp_seq_k fun K hK => ?_
    | refine wkA ?_
    | refine dE 6 [0, 1, 2, 3, 4, 5, 6, 7, 8, 9, 10, 11, 12] mixed ?_
    | refine dE 23 [0, 1, 2, 3, 4, 5, 6, 7, 8, 9, 10, 11, 12, 13] mixed ?_
    | (refine hK _ _ ?_; clear hK K)
    | (refine wcond (fun hc => ?_) (fun hc => ?_) <;> first | contradiction | (exfalso; omega) | skip)
    | (refine hKo2 _ _ ?_)
    | refine cm (hxc) ?_
    | refine wkB ?_
    | exact True.intro
    | (clear hK K))); all_goals (try clear W)
        refine hKr2 _ _ (next_mk (i + 1, (exprK n q (nth (c.node a).l i)).1, ts ++ [(exprK n q (nth (c.node a).l i)).2]) ⟨by (try simp only); omega, ev.trans (ev_expr _ _ _), by simp [hts], hA⟩ (by (try simp only); omega) heq_ lle)
      have hA2 : argsK (exprK n) c (c.node a).l [] = (q, ts) := by
        rw [← hA]
        by_cases hg1 : i < (c.node a).l.length
        · rw [drop_nth hg1, argsK, if_neg fun e => hgo ⟨hg1, e⟩]
        · rw [List.drop_eq_nil_of_le (by omega), argsK]
      have hq1 : q = (argsK (exprK n) c (c.node a).l []).1 := by rw [hA2]
      have hq2 : ts = (argsK (exprK n) c (c.node a).l []).2 := by rw [hA2]
      by_cases hne : (c.node a).l.length ≠ (nth c.tree.fns (calleeK c a).toNat).params.length
      · have hne' : (((c.node a).l.length : Int) = ((nth c.tree.fns (calleeK c a).toNat).params.length : Int)) = False := eq_false (by omega)
        have hcx : (q.fails 43 a).e ≠ 0 := by unfold Ck.fails; split; (exact fun h => by cases h); assumption
        have evx : Ev c (q.fails 43 a) := ev.trans (ev_fails q (by decide) a)
        have hb : ((q.fails 43 a)).e = 0 → ts.length ≤ (nth c.tree.fns (calleeK c a).toNat).params.length := fun h => (hcx h).elim
        (have W := hne'; repeat' (first
    | refine awp_seq_k fun K hK => ?_
    | refine wkA ?_
    | refine dE 6 [0, 1, 2, 3, 4, 5, 6, 7, 8, 9, 10, 11, 12] mixed ?_
    | refine dE 23 [0, 1, 2, 3, 4, 5, 6, 7, 8, 9, 10, 11, 12, 13] mixed ?_
    | (refine hK _ _ ?_; clear hK K)
    | (refine wcond (fun hc => ?_) (fun hc => ?_) <;> first | contradiction | (exfalso; omega) | skip)
    | (refine hKo2 _ _ ?_)
    | refine cm (kfails_c q 43 a) ?_
    | refine wkB ?_
    | exact True.intro
    | (clear hK K))); all_goals (try clear W)
        have hKo3 := hK; clear hK
        refine awp_loop_inv (S := Nat × Ck) [(12, 1), (97, 27)] (fun s => s.1 ≤ ts.length ∧ Ev (q.fails 43 a) s.2 ∧ typesK a s.2 (ts.drop s.1) ((nth c.tree.fns (calleeK c a).toNat).params.drop s.1) = typesK a (q.fails 43 a) ts (nth c.tree.fns (calleeK c a).toNat).params) (fun s => [(12, rI s.1)]) (fun s => ⟨[0, 1, 2, 3, 4, 5], encK s.2 ++ [(6, .var 42 (eGNode (c.node a))), (7, .var 78 (eGFunc (nth c.tree.fns (calleeK c a).toNat))), (8, .vec 3 1 (ts.map eI))]⟩) (fun s => ts.length - s.1) (0, (q.fails 43 a)) ⟨by (try simp only); omega, .refl _, rfl⟩ (fle_at heq_ lle) ?_
        rintro ⟨m, z⟩ ⟨hm1, hm2, hm3⟩ Kr3 hKr3
        simp only at hm1 hm2 hm3
        (refine S ?_; try exact True.intro)
        by_cases hgo : m < ts.length ∧ z.e = 0
        · obtain ⟨hg1, hg2⟩ := hgo
          have he1 : ((q.fails 43 a)).e = 0 := Classical.byContradiction fun h => hm2.err h hg2
          exact (hcx he1).elim
        · have hz : z = typesK a (q.fails 43 a) ts (nth c.tree.fns (calleeK c a).toNat).params := by
            by_cases hg1 : m < ts.length
            · have hg2 : z.e ≠ 0 := fun e => hgo ⟨hg1, e⟩
              rw [drop_nth hg1] at hm3
              cases hp : (nth c.tree.fns (calleeK c a).toNat).params.drop m with
              | nil => rw [hp, types_nil2] at hm3; exact hm3
              | cons x y => rw [hp, typesK, if_neg hg2] at hm3; exact hm3
            · rw [List.drop_eq_nil_of_le (by omega), types_nil1] at hm3
              exact hm3
          (repeat' (first
    | refine awp_seq_k fun K hK => ?_
    | refine wkA ?_
    | refine dE 6 [0, 1, 2, 3, 4, 5, 6, 7, 8, 9, 10, 11, 12] mixed ?_
    | refine dE 23 [0, 1, 2, 3, 4, 5, 6, 7, 8, 9, 10, 11, 12, 13] mixed ?_
    | (refine hK _ _ ?_; clear hK K)
    | (refine wcond (fun hc => ?_) (fun hc => ?_) <;> first | contradiction | (exfalso; omega) | skip)
    | (refine hKo3 _ _ ?_)
    | refine wkB ?_
    | exact True.intro
    | (clear hK K)))
          all_goals first | (exact absurd ⟨by omega, by assumption⟩ hgo) | skip
          have e1 : callK (exprK n) c a = (z, (nth c.tree.fns (calleeK c a).toNat).ret) := by rw [e0, if_pos hne, ← hq1, ← hq2, hz]
          all_goals (
            rw [e1]
            (refine retd [.tmp 4] ?_; try simp only [go_sem]))
      · have hne' : ((c.node a).l.length : Int) = ((nth c.tree.fns (calleeK c a).toNat).params.length : Int) := by omega
        have hcx : True := trivial
        have evx : Ev c q := ev
        have hb : (q).e = 0 → ts.length ≤ (nth c.tree.fns (calleeK c a).toNat).params.length := fun _ => by omega
        (have W := hne'; repeat' (first
    | refine awp_seq_k fun K hK => ?_
    | refine wkA ?_
    | refine dE 6 [0, 1, 2, 3, 4, 5, 6, 7, 8, 9, 10, 11, 12] mixed ?_
    | refine dE 23 [0, 1, 2, 3, 4, 5, 6, 7, 8, 9, 10, 11, 12, 13] mixed ?_
    | (refine hK _ _ ?_; clear hK K)
    | (refine wcond (fun hc => ?_) (fun hc => ?_) <;> first | contradiction | (exfalso; omega) | skip)
    | (refine hKo2 _ _ ?_)
    | refine wkB ?_
    | exact True.intro
    | (clear hK K))); all_goals (try clear W)
        have hKo3 := hK; clear hK
        refine awp_loop_inv (S := Nat × Ck) [(12, 1), (97, 27)] (fun s => s.1 ≤ ts.length ∧ Ev q s.2 ∧ typesK a s.2 (ts.drop s.1) ((nth c.tree.fns (calleeK c a).toNat).params.drop s.1) = typesK a q ts (nth c.tree.fns (calleeK c a).toNat).params) (fun s => [(12, rI s.1)]) (fun s => ⟨[0, 1, 2, 3, 4, 5], encK s.2 ++ [(6, .var 42 (eGNode (c.node a))), (7, .var 78 (eGFunc (nth c.tree.fns (calleeK c a).toNat))), (8, .vec 3 1 (ts.map eI))]⟩) (fun s => ts.length - s.1) (0, q) ⟨by (try simp only); omega, .refl _, rfl⟩ (fle_at heq_ lle) ?_
        rintro ⟨m, z⟩ ⟨hm1, hm2, hm3⟩ Kr3 hKr3
        simp only at hm1 hm2 hm3
        (refine S ?_; try exact True.intro)
        by_cases hgo : m < ts.length ∧ z.e = 0
        · obtain ⟨hg1, hg2⟩ := hgo
          have he1 : (q).e = 0 := Classical.byContradiction fun h => hm2.err h hg2
          have hmp : m < (nth c.tree.fns (calleeK c a).toNat).params.length := by have := hb he1; omega
          rw [drop_nth hg1, drop_nth hmp, typesK, if_pos hg2] at hm3
          (have W := hg2; repeat' (first
    | refine awp_seq_k fun K hK => ?_
    | refine wkA ?_
    | refine dE 6 [0, 1, 2, 3, 4, 5, 6, 7, 8, 9, 10, 11, 12] mixed ?_
    | refine dE 23 [0, 1, 2, 3, 4, 5, 6, 7, 8, 9, 10, 11, 12, 13] mixed ?_
    | (refine hK _ _ ?_; clear hK K)
    | (refine wcond (fun hc => ?_) (fun hc => ?_) <;> first | contradiction | (exfalso; omega) | skip)
    | (refine hKo3 _ _ ?_)
    | refine cm (kmust_c z (decide (nth ts m = (nth (nth c.tree.fns (calleeK c a).toNat).params m).ty)) a) ?_
    | refine wkB ?_
    | exact True.intro
    | (clear hK K))); all_goals (try clear W)
          refine hKr3 _ _ (next_mk (m + 1, z.must (decide (nth ts m = (nth (nth c.tree.fns (calleeK c a).toNat).params m).ty)) a) ⟨by (try simp only); omega, hm2.trans (ev_must _ _ _), hm3⟩ (by (try simp only); omega) heq_ lle)
        · have hz : z = typesK a q ts (nth c.tree.fns (calleeK c a).toNat).params := by
            by_cases hg1 : m < ts.length
            · have hg2 : z.e ≠ 0 := fun e => hgo ⟨hg1, e⟩
              rw [drop_nth hg1] at hm3
              cases hp : (nth c.tree.fns (calleeK c a).toNat).params.drop m with
              | nil => rw [hp, types_nil2] at hm3; exact hm3
              | cons x y => rw [hp, typesK, if_neg hg2] at hm3; exact hm3
            · rw [List.drop_eq_nil_of_le (by omega), types_nil1] at hm3
              exact hm3
          (repeat' (first
    | refine awp_seq_k fun K hK => ?_
    | refine wkA ?_
    | refine dE 6 [0, 1, 2, 3, 4, 5, 6, 7, 8, 9, 10, 11, 12] mixed ?_
    | refine dE 23 [0, 1, 2, 3, 4, 5, 6, 7, 8, 9, 10, 11, 12, 13] mixed ?_
    | (refine hK _ _ ?_; clear hK K)
    | (refine wcond (fun hc => ?_) (fun hc => ?_) <;> first | contradiction | (exfalso; omega) | skip)
    | (refine hKo3 _ _ ?_)
    | refine wkB ?_
    | exact True.intro
    | (clear hK K)))
          all_goals first | (exact absurd ⟨by omega, by assumption⟩ hgo) | skip
          have e1 : callK (exprK n) c a = (z, (nth c.tree.fns (calleeK c a).toNat).ret) := by rw [e0, if_neg hne, ← hq1, ← hq2, hz]
          all_goals (
            rw [e1]
            (refine retd [.tmp 4] ?_; try simp only [go_sem]))
end Go.Proofs.YtbpmikjlfgfbmaaGreatDoor

namespace Go.Proofs.YtbpmikjlfgfbmaaGreatDoor
open Go Go.Gd
structure Sv (c c' : Ck) : Prop where
  tree : c'.tree = c.tree
  fn : c'.fn = c.fn
  size_ : c'.size_ = c.size_
  err : c.e ≠ 0 → c'.e ≠ 0
  inv : CkIn c'
  pre : ∃ u, c'.vars = c.vars ++ u
theorem Sv.refl {c : Ck} (h : CkIn c) : Sv c c := ⟨rfl, rfl, rfl, id, h, [], by simp⟩
theorem Sv.of_ev {c c' : Ck} (h : CkIn c) (s : Ev c c') : Sv c c' := ⟨s.tree, s.fn, s.size_, s.err, h.ev s, [], by rw [s.vars]; simp⟩
theorem Sv.trans {a b c : Ck} (h : Sv a b) (k : Sv b c) : Sv a c := ⟨k.tree.trans h.tree, k.fn.trans h.fn, k.size_.trans h.size_, fun e => k.err (h.err e), k.inv, by
  obtain ⟨u, hu⟩ := h.pre
  obtain ⟨v, hv⟩ := k.pre
  exact ⟨u ++ v, by rw [hv, hu, List.append_assoc]⟩⟩
/-- A NLet, ahead of the new variable. -/
def letA (ex : Ck → Int → Ck × Int) (c : Ck) (a : Int) : Ck := (ex c (c.kid a 0)).1.must (!decide ((ex c (c.kid a 0)).2 = 0)) a
def letB (ex : Ck → Int → Ck × Int) (c : Ck) (a : Int) : Ck := if 0 ≤ (letA ex c a).find (c.node a).name then (letA ex c a).fails 41 a else letA ex c a
def letC (ex : Ck → Int → Ck × Int) (c : Ck) (a : Int) : Ck := if 24 ≤ (letB ex c a).size then (letB ex c a).fails 4 a else letB ex c a
def addV (c : Ck) (a : Int) (v : GVar) : Ck := { (c.slot a c.size) with vars := c.vars ++ [v], more := c.more.drop 1, size := c.size + 1 }
theorem let_eq (ex : Ck → Int → Ck × Int) (c : Ck) (a : Int) : letK ex c a = addV (letC ex c a) a ⟨(c.node a).name, (ex c (c.kid a 0)).2, (letC ex c a).size⟩ := rfl
theorem ev_letA {ex : Ck → Int → Ck × Int} (hex : ∀ c a, Ev c (ex c a).1) (c : Ck) (a : Int) : Ev c (letA ex c a) := (hex c _).trans (ev_must _ _ _)
theorem ev_letB {ex : Ck → Int → Ck × Int} (hex : ∀ c a, Ev c (ex c a).1) (c : Ck) (a : Int) : Ev c (letB ex c a) := by
  unfold letB
  split
  · exact (ev_letA hex c a).trans (ev_fails _ (by decide) a)
  · exact ev_letA hex c a
theorem ev_letC {ex : Ck → Int → Ck × Int} (hex : ∀ c a, Ev c (ex c a).1) (c : Ck) (a : Int) : Ev c (letC ex c a) := by
  unfold letC
  split
  · exact (ev_letB hex c a).trans (ev_fails _ (by decide) a)
  · exact ev_letB hex c a
theorem letC_room {ex : Ck → Int → Ck × Int} {c : Ck} {a : Int} (h : (letC ex c a).e = 0) : (letC ex c a).size < 24 := by
  unfold letC at h ⊢
  split
  · rename_i hs
    rw [if_pos hs] at h
    exfalso
    unfold Ck.fails at h
    split at h
    · cases h
    · contradiction
  · omega
theorem sv_addV {c : Ck} (h : CkIn c) (a : Int) (v : GVar) (h24 : c.size ≤ 24) (hr : c.e = 0 → c.size < 24) : Sv c (addV c a v) := by
  refine ⟨rfl, rfl, rfl, id, ⟨h.tree, h.types, by show (c.slots.set _ _).length = _; rw [List.length_set]; exact h.slots, h.fns, h.size_, h.flo, h.fhi, ?_, by show c.size + 1 ≤ 25; omega, fun e => by show c.size + 1 ≤ 24; have := hr e; omega⟩, [v], rfl⟩
  show ((c.vars ++ [v]).length : Int) ≤ c.size + 1
  have := h.vars
  simp
  omega
theorem sv_let {ex : Ck → Int → Ck × Int} (hex : ∀ c a, Ev c (ex c a).1) {c : Ck} (h : CkIn c) (he : c.e = 0) (a : Int) : Sv c (letK ex c a) := by
  rw [let_eq]
  have s := ev_letC hex c a
  refine (Sv.of_ev h s).trans (sv_addV (h.ev s) a _ ?_ letC_room)
  rw [s.size]
  exact h.room he
theorem sv_returns {ex : Ck → Int → Ck × Int} (hex : ∀ c a, Ev c (ex c a).1) {c : Ck} (h : CkIn c) (a : Int) : Sv c (returnsK ex c a) := by
  refine Sv.of_ev h ?_
  unfold returnsK
  simp only
  split
  · exact ev_fails c (by decide) a
  split
  · exact (hex c _).trans (ev_must _ _ _)
  · exact .refl c
theorem sv_stmts {st : Ck → Int → Ck} (hst : ∀ c a, CkIn c → c.e = 0 → Sv c (st c a)) : ∀ (l : List Int) (c : Ck), CkIn c → Sv c (stmtsK st c l)
  | [], c, h => by unfold stmtsK; exact .refl h
  | a :: l, c, h => by
    unfold stmtsK
    split
    · rename_i he
      have s := hst c a h he
      exact s.trans (sv_stmts hst l _ s.inv)
    · exact .refl h
theorem sv_block {st : Ck → Int → Ck} (hst : ∀ c a, CkIn c → c.e = 0 → Sv c (st c a)) {c : Ck} (h : CkIn c) (a : Int) : Sv c (blockK st c a) ∧ (blockK st c a).vars = c.vars := by
  have s := (Sv.of_ev h (ev_noteF c a)).trans (sv_stmts hst (c.node a).l _ (h.ev (ev_noteF c a)))
  obtain ⟨u, hu⟩ := s.pre
  have hv : (stmtsK st (c.noteF a) (c.node a).l).vars.take (min c.vars.length (stmtsK st (c.noteF a) (c.node a).l).vars.length) = c.vars := by
    rw [hu, Nat.min_eq_left (by simp), List.take_left']
    rfl
  have hi := s.inv
  refine ⟨⟨s.tree, s.fn, s.size_, s.err, ⟨hi.tree, hi.types, hi.slots, hi.fns, hi.size_, hi.flo, hi.fhi, ?_, hi.size, hi.room⟩, [], by rw [List.append_nil]; exact hv⟩, hv⟩
  have := hi.vars
  show (((stmtsK st (c.noteF a) (c.node a).l).vars.take _).length : Int) ≤ _
  rw [List.length_take]
  show _ ≤ (stmtsK st (c.noteF a) (c.node a).l).size
  omega
theorem sv_statement : ∀ (n : Nat) (c : Ck) (a : Int), CkIn c → c.e = 0 → Sv c (statementK n c a)
  | 0, c, a, h, he => by unfold statementK; exact .refl h
  | n + 1, c, a, h, he => by
    have e0 := ev_noteF c a
    have h0 := h.ev e0
    have s0 := Sv.of_ev h e0
    have hx := ev_expr n
    unfold statementK
    simp only
    repeat' split
    · exact s0.trans (sv_let hx h0 he a)
    · exact s0.trans (Sv.of_ev h0 (((ev_named _ a).trans (hx _ _)).trans (ev_must _ _ _)))
    · exact s0.trans (Sv.of_ev h0 ((((ev_named _ a).trans (hx _ _)).trans (hx _ _)).trans (ev_must _ _ _)))
    · exact s0.trans (Sv.of_ev h0 (hx _ _))
    · exact s0.trans (Sv.of_ev h0 ((hx _ _).trans (ev_must _ _ _)))
    · exact s0.trans (sv_returns hx h0 a)
    · have s1 := s0.trans (Sv.of_ev h0 ((hx (c.noteF a) ((c.noteF a).kid a 0)).trans (ev_must _ (decide ((exprK n (c.noteF a) ((c.noteF a).kid a 0)).2 = 2)) a)))
      exact s1.trans (sv_stmts (fun q b hq _ => (sv_block (sv_statement n) hq b).1) _ _ s1.inv)
def KStmtC (n : Nat) : Prop := ∀ (c : Ck) (a : Int), CkIn c → c.e = 0 → 0 ≤ a → a < c.tree.nodes.length → a.toNat < n → isS (c.node a).kind → ACalls Tryz.prog 78 [pR, rI a] (encK c) (fun v l => v = .tup [] ∧ l = encK (statementK n c a))
def KBlockC (n : Nat) : Prop := ∀ (c : Ck) (a : Int), CkIn c → 0 ≤ a → a < c.tree.nodes.length → a.toNat ≤ n → (c.node a).kind = 18 → ACalls Tryz.prog 60 [pR, rI a] (encK c) (fun v l => v = .tup [] ∧ l = encK (blockK (statementK n) c a))
end Go.Proofs.YtbpmikjlfgfbmaaGreatDoor

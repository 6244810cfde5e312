/- The law EvalOwn: what it says is so. No conditions. -/
import Derived.Test.YtbpmikjlfgfbmaaGreatDoorLeA
import Derived.Test.YtbpmikjlfgfbmaaGreatDoorGdX
set_option linter.all false
namespace Go.Proofs.YtbpmikjlfgfbmaaGreatDoor
open Go Go.Gd
theorem and_bd (x : Int) {m : Nat} (hm : m < 9223372036854775808) : 0 ≤ bitsOf .and .i64 x (m : Int) ∧ bitsOf .and .i64 x (m : Int) ≤ m := by
  have h : (BitVec.ofInt IntKind.i64.bits x &&& BitVec.ofInt IntKind.i64.bits (m : Int)).toNat ≤ m := by
    rw [BitVec.toNat_and]
    refine Nat.le_trans Nat.and_le_right ?_
    show (BitVec.ofInt 64 (m : Int)).toNat ≤ m
    rw [BitVec.toNat_ofInt]
    omega
  show 0 ≤ IntKind.i64.wrap _ ∧ IntKind.i64.wrap _ ≤ _
  rw [wrap_in (by omega)]
  omega
@[go_sem] theorem rep_eB (n : Nat) : List.replicate n [AV.raw (.bool false)] = (List.replicate n false).map eB := by simp [eB]
/-- What is marked as naming a slot, at least. -/
def NmOk (p : GProg) (kk : Int) (M : List Bool) (i : Nat) : Prop := ∀ j, j < i → nth M j = false → nth p.slots j ≠ kk ∧ ∀ c ∈ (nth p.tree.nodes j).l, nth M c.toNat = false
theorem getV_set {slots : List GValue} {kk : Nat} {v : GValue} {s t : Int} (h : s ≠ kk) : getV (slots.set kk v) s t = getV slots s t := by
  unfold getV
  rw [List.length_set]
  split
  · rfl
  · rename_i hs
    have e : nth (slots.set kk v) s.toNat = nth slots s.toNat := by rw [nth_set, if_neg (by omega)]
    rw [e]
theorem expr_own {p : GProg} (h : TreeOk p.tree) (slots : List GValue) (heap : List (List Int)) {kk : Nat} (v : GValue) {M : List Bool} {i : Nat} (hi : i ≤ p.tree.nodes.length) (hM : NmOk p kk M i) : ∀ (n : Nat) (a : Int), 0 ≤ a → a.toNat < i → a.toNat < n → isE (kindAt p.tree.nodes a) → nth M a.toNat = false → exprV p (slots.set kk v) heap n a = exprV p slots heap n a
  | 0, a, _, _, hn, _, _ => by omega
  | n + 1, a, h0, h1, hn, hk, hm => by
    have sh := (h.shape a.toNat (by omega))
    obtain ⟨m1, m2⟩ := hM a.toNat h1 hm
    have kid : ∀ q, q < (nth p.tree.nodes a.toNat).l.length → isE (kindAt p.tree.nodes (nth (nth p.tree.nodes a.toNat).l q)) → exprV p (slots.set kk v) heap n (nth (nth p.tree.nodes a.toNat).l q) = exprV p slots heap n (nth (nth p.tree.nodes a.toNat).l q) := fun q hq he => by
      have := sh.2.1 _ (nth_mem hq)
      exact expr_own h slots heap v hi hM n _ (by omega) (by omega) (by omega) he (m2 _ (nth_mem hq))
    have hkr : (nth p.tree.nodes a.toNat).kind = 1 ∨ (nth p.tree.nodes a.toNat).kind = 2 ∨ (nth p.tree.nodes a.toNat).kind = 3 ∨ (nth p.tree.nodes a.toNat).kind = 4 ∨ (nth p.tree.nodes a.toNat).kind = 5 ∨ ((nth p.tree.nodes a.toNat).kind = 6 ∨ (nth p.tree.nodes a.toNat).kind = 7 ∨ (nth p.tree.nodes a.toNat).kind = 8) ∨ (nth p.tree.nodes a.toNat).kind = 9 := by
      have : isE (nth p.tree.nodes a.toNat).kind := hk
      unfold isE at this
      omega
    rcases hkr with k | k | k | k | k | k | k
    · unfold exprV; simp only; rw [if_pos k, if_pos k]
    · unfold exprV; simp only; rw [if_neg (by omega), if_pos k, if_neg (by omega), if_pos k]
    · unfold exprV; simp only; rw [if_neg (by omega), if_neg (by omega), if_pos k, if_neg (by omega), if_neg (by omega), if_pos k]
    · unfold exprV; simp only; rw [if_neg (by omega), if_neg (by omega), if_neg (by omega), if_pos k, if_neg (by omega), if_neg (by omega), if_neg (by omega), if_pos k, getV_set m1]
    · obtain ⟨x, hl, hx⟩ := sh.1.one (by omega)
      have hx' : nth (nth p.tree.nodes a.toNat).l 0 = x := by rw [hl]; rfl
      rw [exprV5 _ _ n k, exprV5 _ _ n k, kid 0 (by rw [hl]; simp) (by rw [hx']; exact hx)]
      unfold indexV
      rw [getV_set m1]
    · obtain ⟨x, hl, hx⟩ := sh.1.one (by omega)
      have hx' : nth (nth p.tree.nodes a.toNat).l 0 = x := by rw [hl]; rfl
      rw [exprV1 _ _ n k, exprV1 _ _ n k, kid 0 (by rw [hl]; simp) (by rw [hx']; exact hx)]
    · obtain ⟨x, y, hl, hx, hy⟩ := sh.1.two (by omega)
      have hx' : nth (nth p.tree.nodes a.toNat).l 0 = x := by rw [hl]; rfl
      have hy' : nth (nth p.tree.nodes a.toNat).l 1 = y := by rw [hl]; rfl
      rw [exprV9 _ _ n k, exprV9 _ _ n k, kid 0 (by rw [hl]; simp) (by rw [hx']; exact hx), kid 1 (by rw [hl]; simp) (by rw [hy']; exact hy)]
/-- A node more is marked, or not. -/
theorem NmOk.next {p : GProg} (h : TreeOk p.tree) {kk : Int} {M : List Bool} {i : Nat} (hi : i < p.tree.nodes.length) (hM : NmOk p kk M i) (hn : nth M i = false → nth p.slots i ≠ kk ∧ ∀ q, q < (nth p.tree.nodes i).l.length → nth M (nth (nth p.tree.nodes i).l q).toNat = false) : NmOk p kk M (i + 1) := fun j hj hm => by
  by_cases e : j < i
  · exact hM j e hm
  · have : j = i := by omega
    subst this
    obtain ⟨a, b⟩ := hn hm
    refine ⟨a, fun c hc => ?_⟩
    obtain ⟨q, hq, rfl⟩ := List.getElem_of_mem hc
    have := b q hq
    rwa [nth_get hq] at this
theorem NmOk.set {p : GProg} (h : TreeOk p.tree) {kk : Int} {M : List Bool} {i : Nat} (hi : i ≤ p.tree.nodes.length) (hM : NmOk p kk M i) (b : Bool) : NmOk p kk (M.set i b) i := fun j hj hm => by
  rw [nth_set, if_neg (by omega)] at hm
  obtain ⟨a, c⟩ := hM j hj hm
  refine ⟨a, fun x hx => ?_⟩
  have := (h.shape j (by omega)).2.1 x hx
  rw [nth_set, if_neg (by omega)]
  exact c x hx
set_option maxHeartbeats 4000000
set_option maxRecDepth 10000
theorem evalOwn_c (s : ByteArray) (m : GMem) (x0 x1 : Int) : PCall Tryz.prog 7 [rS s, .agg (eMem m), .agg [rI x0, rI x1]] (rB true) := by
  have l1 := fewS_len m.slots
  have l2 := fewH_len m.heap
  have hs := source_c (shortF s) (short_size s)
  have hok := @source_ok (shortF s)
  generalize sourceF (shortF s) = R at hs hok
  obtain ⟨p, x, e⟩ := R
  simp only at hs hok
  by_cases he : e = 0
  · have hp := hok he
    have hmany := hp.tree.many
    have hsl := hp.slots
    by_cases hn0 : (fewS m.slots).length = 0
    · refine entP Tryz.func7 Tryz.ntmps7 ?_
      (have W := And.intro he (hn0); repeat' (first
    | refine awp_seq_k fun K hK => ?_
    | refine wkA ?_
    | (refine hK _ _ ?_; clear hK K)
    | (refine wcond (fun hc => ?_) (fun hc => ?_) <;> first | contradiction | (exfalso; omega) | skip)
    | refine cp (shown_c) ?_
    | refine cp (short_c _) ?_
    | refine cp (hs) ?_
    | refine cp (few_c _) ?_
    | refine wkB ?_
    | exact True.intro
    | (clear hK K))); all_goals (try clear W)
      (refine retd [.tmp 6] ?_; try simp only [go_sem])
    · obtain ⟨kk, hkk, hkl⟩ : ∃ kk : Nat, (bitsOf .and .i64 x0 1023).tmod ((fewS m.slots).length : Int) = (kk : Int) ∧ kk < (fewS m.slots).length := by
        obtain ⟨b1, b2⟩ := and_bd x0 (m := 1023) (by decide)
        have h1 := Int.tmod_nonneg ((fewS m.slots).length : Int) b1
        have h2 := Int.tmod_lt_of_pos (bitsOf .and .i64 x0 ((1023 : Nat) : Int)) (b := ((fewS m.slots).length : Int)) (by omega)
        exact ⟨((bitsOf .and .i64 x0 1023).tmod ((fewS m.slots).length : Int)).toNat, by have : (0:Int) ≤ (bitsOf .and .i64 x0 1023).tmod ((fewS m.slots).length : Int) := h1; omega, by have : (bitsOf .and .i64 x0 1023).tmod ((fewS m.slots).length : Int) < _ := h2; omega⟩
      refine entP Tryz.func7 Tryz.ntmps7 ?_
      (have W := And.intro he (And.intro hkk (hn0)); repeat' (first
    | refine awp_seq_k fun K hK => ?_
    | refine wkA ?_
    | (refine hK _ _ ?_; clear hK K)
    | (refine wcond (fun hc => ?_) (fun hc => ?_) <;> first | contradiction | (exfalso; omega) | skip)
    | refine cp (shown_c) ?_
    | refine cp (short_c _) ?_
    | refine cp (hs) ?_
    | refine cp (few_c _) ?_
    | refine mkS 5 ?_
    | refine wkB ?_
    | exact True.intro
    | (clear hK K))); all_goals (try clear W)
      have hR : (List.map eGValue (fewS m.slots)).set kk (AV.raw (Value.int IntKind.i64 1) :: AV.raw (Value.int IntKind.i64 x1) :: AV.raw (Value.string sE) :: List.drop 3 (eGValue (nth (fewS m.slots) kk))) = ((fewS m.slots).set kk ⟨1, x1, sE⟩).map eGValue := by rw [List.map_set]; rfl
      rw [hR]
      have hKo := hK; clear hK
      refine awp_thaw1 [3] [(50, 9)] [(14, slOf eGValue 3 ((fewS m.slots).set kk ⟨1, x1, sE⟩))] rfl Sd Sd vtl ?_
      (refine S ?_; try exact True.intro)
      refine awp_loop_inv (S := Nat × List Bool) [(6, 1), (16, 8), (64, 82)] (fun s => s.1 ≤ p.tree.nodes.length ∧ s.2.length = p.tree.nodes.length ∧ NmOk p kk s.2 s.1) (fun s => [(16, rI s.1)]) (fun s => ⟨[], [(0, .var 25 (eMem m)), (1, .var 54 [rI x0, rI x1]), (2, .var 33 (eGProg p)), (5, .vec 4 1 (s.2.map eB))]⟩) (fun s => p.tree.nodes.length - s.1) (0, List.replicate p.tree.nodes.length false) ⟨by simp, by simp, fun j hj => by simp at hj⟩ (fle_at (by simp only [go_sem]) lle) ?_
      rintro ⟨i, M⟩ ⟨hi1, hM1, hM2⟩ Kr hKr
      simp only at hi1 hM1 hM2
      (refine S ?_; try exact True.intro)
      by_cases hil : i < p.tree.nodes.length
      · have hlm : i < M.length := by omega
        (repeat' (first
    | refine awp_seq_k fun K hK => ?_
    | refine wkA ?_
    | (refine hK _ _ ?_; clear hK K)
    | (refine wcond (fun hc => ?_) (fun hc => ?_) <;> first | contradiction | (exfalso; omega) | skip)
    | (refine hKo _ _ ?_)
    | refine wkB ?_
    | exact True.intro
    | (clear hK K)))
        have hKb := hK; clear hK
        have hKc := hK; clear hK
        have sh := hp.tree.shape i hil
        have hLc : (nth p.tree.nodes i).l.length ≤ 300 := by
          obtain ⟨_, _, lo, hch⟩ := sh
          have := hch.len
          omega
        have hset : NmOk p kk (M.set i (decide (nth p.slots i = (kk : Int)))) i := hM2.set hp.tree (by omega) _
        refine awp_loop_inv (S := Nat × List Bool) [(18, 1), (88, 24)] (fun s => s.1 ≤ (nth p.tree.nodes i).l.length ∧ s.2.length = p.tree.nodes.length ∧ NmOk p kk s.2 i ∧ (nth s.2 i = false → nth p.slots i ≠ (kk : Int) ∧ ∀ r, r < s.1 → nth s.2 (nth (nth p.tree.nodes i).l r).toNat = false)) (fun s => [(18, rI s.1)]) (fun s => ⟨[], [(0, .var 25 (eMem m)), (1, .var 54 [rI x0, rI x1]), (2, .var 33 (eGProg p)), (5, .vec 4 1 (s.2.map eB)), (6, .var 42 (eGNode (nth p.tree.nodes i)))]⟩) (fun s => (nth p.tree.nodes i).l.length - s.1) (0, M.set i (decide (nth p.slots i = (kk : Int)))) ⟨by simp, by simpa using hM1, hset, fun h => ⟨by rw [nth_set, if_pos ⟨rfl, hlm⟩] at h; simpa using h, fun r hr => by simp at hr⟩⟩ (fle_at (by simp only [go_sem]) lle) ?_
        rintro ⟨q, N⟩ ⟨hq1, hN1, hN2, hN3⟩ Kq hKq
        simp only at hq1 hN1 hN2 hN3
        have hlN : i < N.length := by omega
        (refine S ?_; try exact True.intro)
        by_cases hql : q < (nth p.tree.nodes i).l.length
        · have hc2 := sh.2.1 _ (nth_mem hql)
          have hcN : (nth (nth p.tree.nodes i).l q).toNat < N.length := by omega
          (repeat' (first
    | refine awp_seq_k fun K hK => ?_
    | refine wkA ?_
    | (refine hK _ _ ?_; clear hK K)
    | (refine wcond (fun hc => ?_) (fun hc => ?_) <;> first | contradiction | (exfalso; omega) | skip)
    | (refine hKb _ _ ?_)
    | refine wkB ?_
    | exact True.intro
    | (clear hK K)))
          refine hKq _ _ (next_mk (q + 1, N.set i (nth N i || nth N (nth (nth p.tree.nodes i).l q).toNat)) ⟨by (try simp only); omega, by simpa using hN1, hN2.set hp.tree (by omega) _, fun h => ?_⟩ (by (try simp only); omega) (by simp only [go_sem]) lle)
          simp only at h
          rw [nth_set, if_pos ⟨rfl, hlN⟩, Bool.or_eq_false_iff] at h
          obtain ⟨a1, a2⟩ := hN3 h.1
          refine ⟨a1, fun r hr => ?_⟩
          simp only at hr
          have hc3 := sh.2.1 _ (nth_mem (show r < (nth p.tree.nodes i).l.length by omega))
          rw [nth_set, if_neg (by omega)]
          by_cases hrq : r < q
          · exact a2 r hrq
          · rw [show r = q by omega]; exact h.2
        · have hnx : NmOk p kk N (i + 1) := hN2.next hp.tree hil fun h => ⟨(hN3 h).1, fun r hr => (hN3 h).2 r (by omega)⟩
          cases hi : isX (nth p.tree.nodes i) with
          | false =>
            (have W := hi; repeat' (first
    | refine awp_seq_k fun K hK => ?_
    | refine wkA ?_
    | (refine hK _ _ ?_; clear hK K)
    | (refine wcond (fun hc => ?_) (fun hc => ?_) <;> first | contradiction | (exfalso; omega) | skip)
    | (refine hKb _ _ ?_)
    | (refine hKc _ _ ?_)
    | refine cp (is6_c _) ?_
    | refine wkB ?_
    | exact True.intro
    | (clear hK K))); all_goals (try clear W)
            refine hKr _ _ (next_drop [6] (i + 1, N) ⟨by (try simp only); omega, hN1, hnx⟩ (by (try simp only); omega) rfl Sd (by simp only [go_sem]; (try rfl)) vtl)
          | true =>
            cases hni : nth N i with
            | true =>
              (have W := And.intro hi (hni); repeat' (first
    | refine awp_seq_k fun K hK => ?_
    | refine wkA ?_
    | (refine hK _ _ ?_; clear hK K)
    | (refine wcond (fun hc => ?_) (fun hc => ?_) <;> first | contradiction | (exfalso; omega) | skip)
    | (refine hKb _ _ ?_)
    | (refine hKc _ _ ?_)
    | refine cp (is6_c _) ?_
    | refine wkB ?_
    | exact True.intro
    | (clear hK K))); all_goals (try clear W)
              refine hKr _ _ (next_drop [6] (i + 1, N) ⟨by (try simp only); omega, hN1, hnx⟩ (by (try simp only); omega) rfl Sd (by simp only [go_sem]; (try rfl)) vtl)
            | false =>
              have hX := Expr_c hp (fewS m.slots) (fewH m.heap) (by omega) (i + 1) i (by omega) (by omega) (by omega) (isX_E hi)
              have hY := Expr_c hp ((fewS m.slots).set kk ⟨1, x1, sE⟩) (fewH m.heap) (by omega) (i + 1) i (by omega) (by omega) (by omega) (isX_E hi)
              rw [expr_own hp.tree (fewS m.slots) (fewH m.heap) ⟨1, x1, sE⟩ (by omega) hnx (i + 1) i (by omega) (by simp) (by simp) (isX_E hi) (by simpa using hni)] at hY
              generalize exprV p (fewS m.slots) (fewH m.heap) (i + 1) i = V at hX hY
              (have W := And.intro hi (hni); repeat' (first
    | refine awp_seq_k fun K hK => ?_
    | refine wkA ?_
    | (refine hK _ _ ?_; clear hK K)
    | (refine wcond (fun hc => ?_) (fun hc => ?_) <;> first | contradiction | (exfalso; omega) | skip)
    | (refine hKb _ _ ?_)
    | (refine hKc _ _ ?_)
    | refine al 7 ?_
    | refine al 8 ?_
    | refine cp (hX) ?_
    | refine cp (hY) ?_
    | refine cp (is6_c _) ?_
    | refine wkB ?_
    | exact True.intro
    | (clear hK K))); all_goals (try clear W)
              refine hKr _ _ (next_drop [6, 7, 8] (i + 1, N) ⟨by (try simp only); omega, hN1, hnx⟩ (by (try simp only); omega) rfl Sd (by simp only [go_sem]; (try rfl)) vtl)
      · (repeat' (first
    | refine awp_seq_k fun K hK => ?_
    | refine wkA ?_
    | (refine hK _ _ ?_; clear hK K)
    | (refine wcond (fun hc => ?_) (fun hc => ?_) <;> first | contradiction | (exfalso; omega) | skip)
    | (refine hKo _ _ ?_)
    | refine wkB ?_
    | exact True.intro
    | (clear hK K)))
        (refine retd [.tmp 6] ?_; try simp only [go_sem])
  · refine entP Tryz.func7 Tryz.ntmps7 ?_
    (have W := he; repeat' (first
    | refine awp_seq_k fun K hK => ?_
    | refine wkA ?_
    | (refine hK _ _ ?_; clear hK K)
    | (refine wcond (fun hc => ?_) (fun hc => ?_) <;> first | contradiction | (exfalso; omega) | skip)
    | refine cp (shown_c) ?_
    | refine cp (short_c _) ?_
    | refine cp (hs) ?_
    | refine wkB ?_
    | exact True.intro
    | (clear hK K))); all_goals (try clear W)
    (refine retd [.tmp 6] ?_; try simp only [go_sem])
end Go.Proofs.YtbpmikjlfgfbmaaGreatDoor

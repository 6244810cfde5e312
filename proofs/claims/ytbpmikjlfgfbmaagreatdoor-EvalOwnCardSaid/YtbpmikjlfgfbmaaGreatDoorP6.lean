/- The document's parser: blocks, statements. No conditions. -/
import Derived.Test.YtbpmikjlfgfbmaaGreatDoorP5
set_option linter.all false
namespace Go.Proofs.YtbpmikjlfgfbmaaGreatDoor
open Go Go.Gd
def BlockC (n : Nat) : Prop := ∀ r : Rd, r.Inv → 4 * r.rem + 1 ≤ n → ACalls Tryz.prog 57 [pR] (encR r) (fun v l => v = rI (blockF n r).2 ∧ l = encR (blockF n r).1)
def StmtC (n : Nat) : Prop := ∀ r : Rd, r.Inv → r.e = 0 → 4 * r.rem + 2 ≤ n → ACalls Tryz.prog 76 [pR] (encR r) (fun v l => v = rI (stmtF n r).2 ∧ l = encR (stmtF n r).1)
set_option maxHeartbeats 4000000 in
set_option maxRecDepth 10000 in
theorem block_c (n : Nat) (hs : ∀ m, m ≤ n → StmtC m) : BlockC (n + 1) := by
  intro r h hn
  by_cases hx : r.is (⟨#[123]⟩ : ByteArray) = true
  · have he := (Rd.is_kind hx).1
    have hd := (Rd.down_inv h he).1
    have s1 := Rd.st_must hd (⟨#[123]⟩ : ByteArray)
    have h1 := s1.inv hd
    have s2 := (stmt_st n).2.1 _ [] h1
    have h2 := s2.inv h1
    have s3 := Rd.st_must h2 (⟨#[125]⟩ : ByteArray)
    have h3 := s3.inv h2
    have h4 := (Rd.st_deep h he ((s1.trans s2).trans s3)).inv h
    have h3l := h3.dlo
    have h3h := h3.dhi
    have hr := (Rd.down_must h hx).1
    have hr0 : r.rem ≤ 2000 := by
      have := h.pos; have := h.len
      unfold Rd.rem; split <;> omega
    rw [blockF, if_pos hx]
    refine entM Tryz.func57 Tryz.ntmps57 ?_
    (refine S ?_; try exact True.intro)
    (have W := hx; repeat' (first
    | refine awp_seq_k fun K hK => ?_
    | refine wkA ?_
    | (refine hK _ _ ?_; clear hK K)
    | (refine wcond (fun hc => ?_) (fun hc => ?_) <;> first | contradiction | (exfalso; omega) | skip)
    | refine cm (rline_c r (rok h)) ?_
    | refine cm (is_c r _ (rok h)) ?_
    | refine cm (down_c r (rok h)) ?_
    | refine cm (must_c r.down _ (rok hd)) ?_
    | refine wkB ?_
    | exact True.intro
    | (clear hK K))); all_goals (try clear W)
    have hKo := hK; clear hK
    refine awp_weak (FLe.nil 2 5 3 (sz := 1) rfl (by decide) (Or.inr ⟨_, _, _, rfl, rfl⟩)) ?_
    (refine S ?_; try exact True.intro)
    refine awp_loop_inv (S := Nat × Rd × List Int) [(5, 3), (21, 14)] (fun s => s.2.1.Inv ∧ 4 * s.2.1.rem + 3 ≤ s.1 ∧ s.1 ≤ n ∧ s.2.2.length + s.2.1.rem ≤ 2000 ∧ stmtsF s.1 s.2.1 s.2.2 = stmtsF n (r.down.must (⟨#[123]⟩ : ByteArray)) []) (fun s => [(5, .rs 2 s.2.2.length 1 s.2.2.length)]) (fun s => ⟨[0, 1], encR s.2.1 ++ [(2, .vec 3 1 (s.2.2.map eI))]⟩) (fun s => s.1) (n, r.down.must (⟨#[123]⟩ : ByteArray), []) ⟨h1, by (try simp only); omega, Nat.le_refl _, by (try simp only [List.length_nil]); omega, rfl⟩ (fle_at rfl lle) ?_
    rintro ⟨m, q, L⟩ ⟨hq, hm1, hm2, hm3, hA⟩ Kr hKr
    simp only at hq hm1 hm2 hm3 hA
    have hqi := hq.lt
    have hqp := hq.pos
    have hql := hq.len
    obtain ⟨m, rfl⟩ : ∃ k, m = k + 1 := ⟨m - 1, by omega⟩
    rw [stmtsF] at hA
    by_cases hc1 : q.e = 0 ∧ q.is (⟨#[125]⟩ : ByteArray) = false
    · rw [if_pos hc1] at hA
      obtain ⟨hqe, hqc⟩ := hc1
      obtain ⟨t1, t2⟩ := (stmt_st m).2.2 q hq hqe (by omega)
      have hj := t1.inv hq
      (refine S ?_; try exact True.intro)
      (have W := And.intro hqe (hqc); repeat' (first
    | refine awp_seq_k fun K hK => ?_
    | refine wkA ?_
    | (refine hK _ _ ?_; clear hK K)
    | (refine wcond (fun hc => ?_) (fun hc => ?_) <;> first | contradiction | (exfalso; omega) | skip)
    | refine cm (is_c q _ (rok hq)) ?_
    | refine cm (hs m (by omega) q hq hqe (by omega)) ?_
    | refine wkB ?_
    | exact True.intro
    | (clear hK K))); all_goals (try clear W)
      refine hKr _ _ (next_mk (m, (stmtF m q).1, L ++ [(stmtF m q).2]) ⟨hj, by (try simp only); omega, by (try simp only); omega, by (try simp only [List.length_append, List.length_cons, List.length_nil]); omega, hA⟩ (by (try simp only); omega) (by simp only [go_sem, encR, rdCells, List.map_append, List.map_cons, List.map_nil, List.cons_append, List.nil_append]; (try rfl)) lle)
    · rw [if_neg hc1] at hA
      have e1 : q = (stmtsF n (r.down.must (⟨#[123]⟩ : ByteArray)) []).1 := by rw [← hA]
      have e2 : L = (stmtsF n (r.down.must (⟨#[123]⟩ : ByteArray)) []).2 := by rw [← hA]
      rw [← e1] at h3 h4 h3l h3h
      (refine S ?_; try exact True.intro)
      (repeat' (first
    | refine awp_seq_k fun K hK => ?_
    | refine wkA ?_
    | (refine hK _ _ ?_; clear hK K)
    | (refine wcond (fun hc => ?_) (fun hc => ?_) <;> first | contradiction | (exfalso; omega) | skip)
    | refine cm (is_c q _ (rok hq)) ?_
    | refine wkB ?_
    | exact True.intro
    | (clear hK K)))
      all_goals first | (exact absurd ⟨by assumption, by assumption⟩ hc1) | skip
      all_goals refine hKo _ _ ?_
      all_goals refine awp_thaw [2] 5 (slOf eI 1 L) Sd Sd vtl ?_
      all_goals (
        (refine S ?_; try exact True.intro)
        (repeat' (first
    | refine awp_seq_k fun K hK => ?_
    | refine wkA ?_
    | (refine hK _ _ ?_; clear hK K)
    | (refine wcond (fun hc => ?_) (fun hc => ?_) <;> first | contradiction | (exfalso; omega) | skip)
    | refine cm (must_c q _ (rok hq)) ?_
    | refine cm (put_c (q.must (⟨#[125]⟩ : ByteArray)).up _ _ _ _ L (rok h4)) ?_
    | refine wkB ?_
    | exact True.intro
    | (clear hK K)))
        (refine retf [.tmp 2] ?_ ?_ <;> (try simp only [go_sem]))
        all_goals simp only [← e1, ← e2])
  · rw [blockF, if_neg hx]
    have hx' : r.is (⟨#[123]⟩ : ByteArray) = false := by simpa using hx
    refine entM Tryz.func57 Tryz.ntmps57 ?_
    (refine S ?_; try exact True.intro)
    (have W := hx'; repeat' (first
    | refine awp_seq_k fun K hK => ?_
    | refine wkA ?_
    | (refine hK _ _ ?_; clear hK K)
    | (refine wcond (fun hc => ?_) (fun hc => ?_) <;> first | contradiction | (exfalso; omega) | skip)
    | refine cm (rline_c r (rok h)) ?_
    | refine cm (is_c r _ (rok h)) ?_
    | refine cm (fails_c r _ (rok h)) ?_
    | refine wkB ?_
    | exact True.intro
    | (clear hK K))); all_goals (try clear W)
    (refine retf [.tmp 2] ?_ ?_ <;> (try simp only [go_sem]))
set_option maxHeartbeats 8000000 in
set_option maxRecDepth 10000 in
theorem statement_c (n : Nat) (hb : BlockC n) : StmtC (n + 1) := by
  intro r h he hn
  have hri := h.lt
  have hrp := h.pos
  have hrl := h.len
  have word : ∀ w : ByteArray, w ≠ ⟨#[]⟩ → r.word = w → r.inc.Inv ∧ r.inc.rem + 1 ≤ r.rem := fun w h0 hw => by
    have hk := Rd.kind_kind (Rd.word_kind hw h0) (by decide)
    exact ⟨(Rd.st_inc h hk.2).1.inv h, Rd.rem_inc h hk⟩
  rw [stmtF]
  by_cases w1 : r.word = (⟨#[108, 101, 116]⟩ : ByteArray)
  · rw [if_pos w1]
    have w1' := eq_true w1
    obtain ⟨hi, hr⟩ := word _ (by decide) w1
    have h1 := (Rd.st_name hi).inv hi
    have h2 := (Rd.st_must h1 (⟨#[61]⟩ : ByteArray)).inv h1
    have h3 := (rightF_st h2).inv h2
    have h4 := (Rd.st_must h3 (⟨#[59]⟩ : ByteArray)).inv h3
    refine entM Tryz.func76 Tryz.ntmps76 ?_
    (refine S ?_; try exact True.intro)
    (have W := w1'; repeat' (first
    | refine awp_seq_k fun K hK => ?_
    | refine wkA ?_
    | (refine hK _ _ ?_; clear hK K)
    | (refine wcond (fun hc => ?_) (fun hc => ?_) <;> first | contradiction | (exfalso; omega) | skip)
    | refine cm (rline_c r (rok h)) ?_
    | refine cm (rword_c r (rok h)) ?_
    | refine cm (name_c r.inc (rok hi)) ?_
    | refine cm (must_c r.inc.name.1 _ (rok h1)) ?_
    | refine cm (right_c h2) ?_
    | refine cm (must_c (rightF (r.inc.name.1.must (⟨#[61]⟩ : ByteArray))).1 _ (rok h3)) ?_
    | refine cm (put_w ((rightF (r.inc.name.1.must (⟨#[61]⟩ : ByteArray))).1.must (⟨#[59]⟩ : ByteArray)) _ _ _ _ [(rightF (r.inc.name.1.must (⟨#[61]⟩ : ByteArray))).2] _ VLe.sl (rok h4)) ?_
    | refine wkB ?_
    | exact True.intro
    | (clear hK K))); all_goals (try clear W)
    (refine retf [.tmp 2] ?_ ?_ <;> (try simp only [go_sem]))
  rw [if_neg w1]
  by_cases w2 : r.word = (⟨#[112, 114, 105, 110, 116]⟩ : ByteArray)
  · rw [if_pos w2]
    have w2' := eq_true w2
    obtain ⟨hi, hr⟩ := word _ (by decide) w2
    have h1 := (exprF_st hi).inv hi
    have h2 := (Rd.st_must h1 (⟨#[59]⟩ : ByteArray)).inv h1
    refine entM Tryz.func76 Tryz.ntmps76 ?_
    (refine S ?_; try exact True.intro)
    (have W := And.intro w1 (w2'); repeat' (first
    | refine awp_seq_k fun K hK => ?_
    | refine wkA ?_
    | (refine hK _ _ ?_; clear hK K)
    | (refine wcond (fun hc => ?_) (fun hc => ?_) <;> first | contradiction | (exfalso; omega) | skip)
    | refine cm (rline_c r (rok h)) ?_
    | refine cm (rword_c r (rok h)) ?_
    | refine cm (exprF_c hi) ?_
    | refine cm (must_c (exprF r.inc).1 _ (rok h1)) ?_
    | refine cm (put_w ((exprF r.inc).1.must (⟨#[59]⟩ : ByteArray)) _ _ _ _ [(exprF r.inc).2] _ VLe.sl (rok h2)) ?_
    | refine wkB ?_
    | exact True.intro
    | (clear hK K))); all_goals (try clear W)
    (refine retf [.tmp 2] ?_ ?_ <;> (try simp only [go_sem]))
  rw [if_neg w2]
  by_cases w3 : r.word = (⟨#[119, 104, 105, 108, 101]⟩ : ByteArray)
  · rw [if_pos w3]
    have w3' := eq_true w3
    obtain ⟨hi, hr⟩ := word _ (by decide) w3
    have h1 := (exprF_st hi).inv hi
    have hr1 := (exprF_st hi).rem
    have h2 := ((stmt_st n).1 _ h1).inv h1
    refine entM Tryz.func76 Tryz.ntmps76 ?_
    (refine S ?_; try exact True.intro)
    (have W := And.intro w1 (And.intro w2 (w3')); repeat' (first
    | refine awp_seq_k fun K hK => ?_
    | refine wkA ?_
    | (refine hK _ _ ?_; clear hK K)
    | (refine wcond (fun hc => ?_) (fun hc => ?_) <;> first | contradiction | (exfalso; omega) | skip)
    | refine cm (rline_c r (rok h)) ?_
    | refine cm (rword_c r (rok h)) ?_
    | refine cm (exprF_c hi) ?_
    | refine cm (hb _ h1 (by omega)) ?_
    | refine cm (put_w (blockF n (exprF r.inc).1).1 _ _ _ _ [(exprF r.inc).2, (blockF n (exprF r.inc).1).2] _ VLe.sl (rok h2)) ?_
    | refine wkB ?_
    | exact True.intro
    | (clear hK K))); all_goals (try clear W)
    (refine retf [.tmp 2] ?_ ?_ <;> (try simp only [go_sem]))
  rw [if_neg w3]
  by_cases w4 : r.word = (⟨#[105, 102]⟩ : ByteArray)
  · rw [if_pos w4]
    have w4' := eq_true w4
    obtain ⟨hi, hr⟩ := word _ (by decide) w4
    have h1 := (exprF_st hi).inv hi
    have hr1 := (exprF_st hi).rem
    have s2 := (stmt_st n).1 _ h1
    have h2 := s2.inv h1
    have hr2 := s2.rem
    have h2i := h2.lt
    have h2p := h2.pos
    have h2l := h2.len
    by_cases hx : (blockF n (exprF r.inc).1).1.is (⟨#[101, 108, 115, 101]⟩ : ByteArray) = true
    · rw [if_pos hx]
      have hk := Rd.is_kind hx
      have h3 := (Rd.st_inc h2 hk.2).1.inv h2
      have hr3 := Rd.rem_inc h2 hk
      have h4 := ((stmt_st n).1 _ h3).inv h3
      refine entM Tryz.func76 Tryz.ntmps76 ?_
      (refine S ?_; try exact True.intro)
      (have W := And.intro w1 (And.intro w2 (And.intro w3 (And.intro w4' (hx)))); repeat' (first
    | refine awp_thaw2 (id := 31) [2] [(13, 135)] [(12, slOf eI 1 [(exprF r.inc).2, (blockF n (exprF r.inc).1).2, (blockF n (blockF n (exprF r.inc).1).1.inc).2])] ?_
    | refine awp_seq_k fun K hK => ?_
    | refine wkA ?_
    | (refine hK _ _ ?_; clear hK K)
    | (refine wcond (fun hc => ?_) (fun hc => ?_) <;> first | contradiction | (exfalso; omega) | skip)
    | refine cm (rline_c r (rok h)) ?_
    | refine cm (rword_c r (rok h)) ?_
    | refine cm (exprF_c hi) ?_
    | refine cm (hb _ h1 (by omega)) ?_
    | refine cm (is_c (blockF n (exprF r.inc).1).1 _ (rok h2)) ?_
    | refine cm (hb _ h3 (by omega)) ?_
    | refine cm (put_c (blockF n (blockF n (exprF r.inc).1).1.inc).1 _ _ _ _ [(exprF r.inc).2, (blockF n (exprF r.inc).1).2, (blockF n (blockF n (exprF r.inc).1).1.inc).2] (rok h4)) ?_
    | refine wkB ?_
    | exact True.intro
    | (clear hK K))); all_goals (try clear W)
      (refine retf [.tmp 2] ?_ ?_ <;> (try simp only [go_sem]))
    · rw [if_neg hx]
      have hx' : (blockF n (exprF r.inc).1).1.is (⟨#[101, 108, 115, 101]⟩ : ByteArray) = false := by simpa using hx
      refine entM Tryz.func76 Tryz.ntmps76 ?_
      (refine S ?_; try exact True.intro)
      (have W := And.intro w1 (And.intro w2 (And.intro w3 (And.intro w4' (hx')))); repeat' (first
    | refine awp_seq_k fun K hK => ?_
    | refine wkA ?_
    | (refine hK _ _ ?_; clear hK K)
    | (refine wcond (fun hc => ?_) (fun hc => ?_) <;> first | contradiction | (exfalso; omega) | skip)
    | refine cm (rline_c r (rok h)) ?_
    | refine cm (rword_c r (rok h)) ?_
    | refine cm (exprF_c hi) ?_
    | refine cm (hb _ h1 (by omega)) ?_
    | refine cm (is_c (blockF n (exprF r.inc).1).1 _ (rok h2)) ?_
    | refine cm (put_w (blockF n (exprF r.inc).1).1 _ _ _ _ [(exprF r.inc).2, (blockF n (exprF r.inc).1).2] _ VLe.sl (rok h2)) ?_
    | refine wkB ?_
    | exact True.intro
    | (clear hK K))); all_goals (try clear W)
      (refine retf [.tmp 2] ?_ ?_ <;> (try simp only [go_sem]))
  rw [if_neg w4]
  by_cases w5 : r.word = (⟨#[114, 101, 116, 117, 114, 110]⟩ : ByteArray)
  · rw [if_pos w5]
    have w5' := eq_true w5
    obtain ⟨hi, hr⟩ := word _ (by decide) w5
    by_cases hx : r.inc.is (⟨#[59]⟩ : ByteArray) = true
    · rw [if_pos hx]
      have h1 := (Rd.st_must hi (⟨#[59]⟩ : ByteArray)).inv hi
      refine entM Tryz.func76 Tryz.ntmps76 ?_
      (refine S ?_; try exact True.intro)
      (have W := And.intro w1 (And.intro w2 (And.intro w3 (And.intro w4 (And.intro w5' (hx))))); repeat' (first
    | refine awp_seq_k fun K hK => ?_
    | refine wkA ?_
    | (refine hK _ _ ?_; clear hK K)
    | (refine wcond (fun hc => ?_) (fun hc => ?_) <;> first | contradiction | (exfalso; omega) | skip)
    | refine cm (rline_c r (rok h)) ?_
    | refine cm (rword_c r (rok h)) ?_
    | refine cm (is_c r.inc _ (rok hi)) ?_
    | refine cm (must_c r.inc _ (rok hi)) ?_
    | refine cm (put_w (r.inc.must (⟨#[59]⟩ : ByteArray)) _ _ _ _ [] _ VLe.sl (rok h1)) ?_
    | refine wkB ?_
    | exact True.intro
    | (clear hK K))); all_goals (try clear W)
      (refine retf [.tmp 2] ?_ ?_ <;> (try simp only [go_sem]))
    · rw [if_neg hx]
      have hx' : r.inc.is (⟨#[59]⟩ : ByteArray) = false := by simpa using hx
      have h1 := (exprF_st hi).inv hi
      have h2 := (Rd.st_must h1 (⟨#[59]⟩ : ByteArray)).inv h1
      refine entM Tryz.func76 Tryz.ntmps76 ?_
      (refine S ?_; try exact True.intro)
      (have W := And.intro w1 (And.intro w2 (And.intro w3 (And.intro w4 (And.intro w5' (hx'))))); repeat' (first
    | refine awp_thaw2 (id := 40) [2] [(16, 132)] [(15, slOf eI 1 [(exprF r.inc).2])] ?_
    | refine awp_seq_k fun K hK => ?_
    | refine wkA ?_
    | (refine hK _ _ ?_; clear hK K)
    | (refine wcond (fun hc => ?_) (fun hc => ?_) <;> first | contradiction | (exfalso; omega) | skip)
    | refine cm (rline_c r (rok h)) ?_
    | refine cm (rword_c r (rok h)) ?_
    | refine cm (is_c r.inc _ (rok hi)) ?_
    | refine cm (exprF_c hi) ?_
    | refine cm (must_c (exprF r.inc).1 _ (rok h1)) ?_
    | refine cm (put_c ((exprF r.inc).1.must (⟨#[59]⟩ : ByteArray)) _ _ _ _ [(exprF r.inc).2] (rok h2)) ?_
    | refine wkB ?_
    | exact True.intro
    | (clear hK K))); all_goals (try clear W)
      (refine retf [.tmp 2] ?_ ?_ <;> (try simp only [go_sem]))
  rw [if_neg w5]
  refine entM Tryz.func76 Tryz.ntmps76 ?_
  (refine S ?_; try exact True.intro)
  (have W := And.intro w1 (And.intro w2 (And.intro w3 (And.intro w4 (w5)))); repeat' (first
    | refine awp_seq_k fun K hK => ?_
    | refine wkA ?_
    | (refine hK _ _ ?_; clear hK K)
    | (refine wcond (fun hc => ?_) (fun hc => ?_) <;> first | contradiction | (exfalso; omega) | skip)
    | refine cm (rline_c r (rok h)) ?_
    | refine cm (rword_c r (rok h)) ?_
    | refine cm (named_c h he r.line) ?_
    | refine wkB ?_
    | exact True.intro
    | (clear hK K))); all_goals (try clear W)
  (refine retf [.tmp 2] ?_ ?_ <;> (try simp only [go_sem]))
end Go.Proofs.YtbpmikjlfgfbmaaGreatDoor

/- The plain law of the document's lexer: what tokens are. The document's parser: functions, all. The document's parser: all. No conditions. -/
import Derived.Test.YtbpmikjlfgfbmaaGreatDoorP5
import Derived.Test.YtbpmikjlfgfbmaaGreatDoorP6
set_option linter.all false
namespace Go.Gd
open Go
theorem byteAt_extract {s : ByteArray} {a e : Nat} (he : e ≤ s.size) {j : Nat} (hj : a + j < e) : byteAt (s.extract a e) (j : Nat) = byteAt s ((a + j : Nat) : Int) := by
  unfold byteAt
  have h1 : (s.extract a e).data = s.data.extract a e := by simp
  rw [h1]
  simp only [Int.toNat_natCast]
  have hs : e ≤ s.data.size := he
  rw [Array.getElem?_extract]
  rw [if_pos (by omega)]
theorem tokOne_kind {s : ByteArray} {a : Nat} (ha : a < s.size) (h : (tokOne s a).2.2 = 0) : (tokOne s a).1.kind ≠ 0 ∧ ((tokOne s a).1.kind = 1 → NumTok (tokOne s a).1.text) := by
  unfold tokOne at h ⊢
  split at h <;> rename_i h1
  · rw [if_pos h1]
    split at h <;> rename_i h2
    · rw [if_pos h2]
      refine ⟨fun e => (by cases e), fun _ => ?_⟩
      have hb := (spanE_bd (p := isDigit) (s := s) (i := a) (by omega)).2
      have hp := spanE_pos ha h1
      have hsz : (s.extract a (spanE isDigit s a)).size = spanE isDigit s a - a := by rw [ByteArray.size_extract]; omega
      refine ⟨by show 0 < (s.extract a (spanE isDigit s a)).size; omega, h2, fun j hj => ?_⟩
      have hj : j < (s.extract a (spanE isDigit s a)).size := hj
      show isDigit (byteAt (s.extract a (spanE isDigit s a)) j) = true
      rw [byteAt_extract hb (by omega)]
      exact spanF_all (n := s.size + 1) (i := a) (by omega) (by show _ < spanE isDigit s a; omega)
    · cases h
  · rw [if_neg h1]
    split at h <;> rename_i h2
    · rw [if_pos h2]
      split at h <;> rename_i h3
      · rw [if_pos h3]; exact ⟨fun e => (by cases e), fun e => (by cases e)⟩
      · rw [if_neg h3]
        split at h <;> rename_i h4
        · cases h
        · rw [if_neg h4]; exact ⟨fun e => (by cases e), fun e => (by cases e)⟩
    · rw [if_neg h2]
      split at h <;> rename_i h3
      · rw [if_pos h3]; exact ⟨fun e => (by cases e), fun e => (by cases e)⟩
      · rw [if_neg h3]
        split at h <;> rename_i h4
        · cases h
        · rw [if_neg h4]; exact ⟨fun e => (by cases e), fun e => (by cases e)⟩
def TokOk (t : GToken) : Prop := t.kind ≠ 0 ∧ (t.kind = 1 → NumTok t.text)
theorem lexF_ok (s : ByteArray) : ∀ (n i : Nat) (out : List GToken), s.size < n + i → i ≤ s.size → (lexF s n i out).2.2 = 0 → out.length ≤ i → (∀ t ∈ out, TokOk t) → ∃ ts, (lexF s n i out).1 = ts ++ [⟨0, ⟨#[]⟩, s.size⟩] ∧ ts.length ≤ s.size ∧ ∀ t ∈ ts, TokOk t
  | 0, i, out, h1, h2, _, _, _ => by omega
  | n + 1, i, out, h1, h2, he, hl, ho => by
    unfold lexF at he ⊢
    split at he <;> rename_i hi
    · rw [if_pos hi]
      split at he <;> rename_i h3
      · rw [if_pos h3]
        obtain ⟨e, h4, h5, h6⟩ := tokOne_end hi h3
        rw [h4, Int.toNat_natCast] at he ⊢
        have := skE_bd (s := s) (i := e) h6
        refine lexF_ok s n _ _ (by omega) this.2 he (by rw [List.length_append]; simp; omega) fun t ht => ?_
        rcases List.mem_append.1 ht with ht | ht
        · exact ho t ht
        · rw [List.mem_singleton.1 ht]; exact tokOne_kind hi h3
      · exact (h3 he).elim
    · rw [if_neg hi]
      exact ⟨out, rfl, by omega, ho⟩
theorem lexAll_ok {s : ByteArray} (he : (lexAll s).2.2 = 0) : s.size ≤ 600 ∧ ∃ ts, (lexAll s).1 = ts ++ [⟨0, ⟨#[]⟩, s.size⟩] ∧ ts.length ≤ s.size ∧ ∀ t ∈ ts, TokOk t := by
  unfold lexAll at he ⊢
  split at he <;> rename_i h
  · cases he
  · rw [if_neg h]
    have h0 := skE_bd (s := s) (i := 0) (Nat.zero_le _)
    exact ⟨by omega, lexF_ok s (s.size + 1) _ _ (by omega) h0.2 he (by simp) fun t ht => by simp at ht⟩
theorem nth_append_lt {α : Type} [Inhabited α] {l m : List α} {k : Nat} (h : k < l.length) : nth (l ++ m) k = nth l k := by
  simp only [nth, List.getD_eq_getElem?_getD, List.getElem?_append_left h]
theorem nth_mem {α : Type} [Inhabited α] {l : List α} {k : Nat} (h : k < l.length) : nth l k ∈ l := by
  rw [nth_get h]; exact List.getElem_mem h
theorem rd0_inv {s : ByteArray} (he : (lexAll s).2.2 = 0) : (rd0 s).Inv := by
  obtain ⟨h0, ts, h1, h2, h3⟩ := lexAll_ok he
  have hl : (rd0 s).l = ts ++ [⟨0, ⟨#[]⟩, s.size⟩] := h1
  have hn : (rd0 s).l.length = ts.length + 1 := by rw [hl]; simp
  have hlast : nth (ts ++ [⟨0, ⟨#[]⟩, s.size⟩] : List GToken) ts.length = ⟨0, ⟨#[]⟩, s.size⟩ := by
    simp [nth]
  refine ⟨by show s.size ≤ 1000; omega, Int.le_refl _, by show (0 : Int) < _; omega, by omega, fun k hk hk1 => ?_, fun k hk hk1 => ?_, Int.le_refl _, by show (0 : Int) ≤ 17; decide, fun _ => by show (0 : Int) ≤ 16; decide, ?_⟩
  · rw [hl] at hk1 ⊢
    by_cases e : k < ts.length
    · rw [nth_append_lt e] at hk1 ⊢
      exact (h3 _ (nth_mem e)).2 hk1
    · have : k = ts.length := by omega
      subst this
      rw [hlast] at hk1
      cases hk1
  · by_cases e : k < ts.length
    · omega
    · have : k = ts.length := by omega
      subst this
      rw [hl, hlast] at hk1
      exact (hk1 rfl).elim
  · show ((0 : Nat) : Int) + 3 * ((rd0 s).l.length - 0) + 1 ≤ 8000
    omega
end Go.Gd

namespace Go.Gd
open Go
/-- What is known of a thing's cells may be said otherwise. -/
theorem own_cells {w : NW} {H : Hp} (r : RelW w H) {j : Nat} {t : TypeId} {cs cs' : List AV} (hj : H.get j = some (.var t cs)) (hl : cs'.length = cs.length) (h : ∀ (k : Nat) a a' v, cs[k]? = some a → cs'[k]? = some a' → RelV w a v → RelV w a' v) : RelW w (H.put j (.var t cs')) ∧ Ext w H w (H.put j (.var t cs')) := by
  have ex : Ext w H w (H.put j (.var t cs')) := { ExtQ.refl _ w with base := rfl }
  refine ⟨{ rows := fun i s hi => ?_, dom := fun i m z hz => ?_, inj := r.inj, own := r.own, fin := r.fin, glob := r.glob.keep ex.toKeep }, ex⟩
  · rw [Hp.get_put] at hi
    split at hi
    · rename_i e; subst e; cases hi
      obtain ⟨h1, z, h2, h3⟩ := r.rows _ _ hj
      refine ⟨trivial, z, h2, ?_⟩
      cases z with
      | nil => obtain ⟨e, sz, h4⟩ := h3; cases h4
      | «at» b u s =>
        obtain ⟨g1, cur, g2, g3, g4, g5⟩ := h3
        refine ⟨g1, cur, g2, g3, by show cs'.length ≤ u; rw [hl]; exact g4, fun k a v ha hv => ?_⟩
        have ha : cs'[k]? = some a := ha
        have hk : k < cs.length := by rw [← hl]; exact (List.getElem?_eq_some_iff.1 ha).1
        exact h k cs[k] a v (List.getElem?_eq_getElem hk) ha (g5 k cs[k] v (List.getElem?_eq_getElem hk) hv)
    · exact r.rows i s hi
  · obtain ⟨s, h1, h2⟩ := r.dom i m z hz
    rw [Hp.get_put]
    split
    · rename_i e; subst e
      rw [hj] at h1; cases h1
      exact ⟨_, rfl, h2⟩
    · exact ⟨s, h1, h2⟩
/-- Nothing in a thing's cell, as a row of one's own. -/
theorem FLe.nilC {F : List AV} {H : Hp} (i j k : Nat) (e : TypeId) (sz : Nat) {t : TypeId} {cs : List AV} (hi : H.get i = none) (h0 : 0 < sz) (hj : H.get j = some (.var t cs)) (hk : cs[k]? = some (.raw (.slice none 0 0))) : FLe F H F ((H.put i (.vec e sz [])).put j (.var t (cs.set k (.rs i 0 sz 0)))) := fun w tm h1 h2 => by
  obtain ⟨a, b⟩ := own_nil h1 hi e h0
  have hij : j ≠ i := fun e => by subst e; rw [hi] at hj; cases hj
  obtain ⟨a', b'⟩ := own_cells (cs' := cs.set k (.rs i 0 sz 0)) a (j := j) (t := t) (cs := cs) (by rw [Hp.get_put, if_neg hij]; exact hj) (by simp) fun n x x' v hx hx' hv => by
    rw [List.getElem?_set] at hx'
    by_cases hn : k = n
    · subst hn
      rw [if_pos rfl] at hx'
      split at hx'
      · cases hx'
        rw [hk] at hx
        cases hx
        cases hv
        exact .rs0 _ _ _ _ (NW.name_same _ _ _ _)
      · cases hx'
    · rw [if_neg hn, hx] at hx'
      cases hx'
      exact hv
  exact ⟨w.name i 0 .nil, rfl, a', h2.ext b, (b.trans b').toB⟩
end Go.Gd
namespace Go.Proofs.YtbpmikjlfgfbmaaGreatDoor
open Go Go.Gd
theorem stmts_c : ∀ m n, n ≤ m → BlockC n ∧ StmtC n
  | 0, 0, _ => ⟨fun r h hn => by omega, fun r h he hn => by omega⟩
  | m + 1, 0, _ => ⟨fun r h hn => by omega, fun r h he hn => by omega⟩
  | m + 1, n + 1, hm => by
    have ih := fun k (hk : k ≤ n) => stmts_c m k (by omega)
    exact ⟨block_c n fun k hk => (ih k hk).2, statement_c n (ih n (Nat.le_refl _)).1⟩
theorem body_c {r : Rd} (h : r.Inv) : ACalls Tryz.prog 57 [pR] (encR r) (fun v l => v = rI (bodyF r).2 ∧ l = encR (bodyF r).1) := (stmts_c _ _ (Nat.le_refl _)).1 r h (by omega)
set_option maxHeartbeats 4000000 in
set_option maxRecDepth 10000 in
theorem function_c {r : Rd} (h : r.Inv) : ACalls Tryz.prog 36 [pR] (encR r) (fun v l => v = .agg (eGFunc (fnF r).2) ∧ l = encR (fnF r).1) := by
  have h1 := (fnA_st h).1.inv h
  have h2 := (fnA_st h).2.1.inv h
  have h3 := (fnA_st h).2.2.1.inv h
  have h4 := (fnB_st h).inv h1
  have h5 := (fnC_st h).inv h1
  have h6 := (fnD_st h).inv h1
  have h7 := (bodyF_st h6).inv h6
  have hr0 : (fnA r).rem ≤ 2000 := by
    have := h3.pos; have := h3.len
    unfold Rd.rem; split <;> omega
  have hm : ACalls Tryz.prog 53 [pR, rS (⟨#[40]⟩ : ByteArray)] (encR (r.must (⟨#[102, 110]⟩ : ByteArray)).name.1) (fun v l => v = .tup [] ∧ l = encR (fnA r)) := must_c (r.must (⟨#[102, 110]⟩ : ByteArray)).name.1 _ (rok h2)
  refine entM Tryz.func36 Tryz.ntmps36 ?_
  (refine S ?_; try exact True.intro)
  (repeat' (first
    | refine awp_seq_k fun K hK => ?_
    | refine wkA ?_
    | (refine hK _ _ ?_; clear hK K)
    | (refine wcond (fun hc => ?_) (fun hc => ?_) <;> first | contradiction | (exfalso; omega) | skip)
    | refine cm (rline_c r (rok h)) ?_
    | refine cm (hm) ?_
    | refine cm (must_c r _ (rok h)) ?_
    | refine cm (name_c (r.must (⟨#[102, 110]⟩ : ByteArray)) (rok h1)) ?_
    | refine cm (is_c (fnA r) _ (rok h3)) ?_
    | refine wkB ?_
    | exact True.intro
    | (clear hK K)))
  have hKo := hK; clear hK
  refine awp_weak (FLe.nilC 4 3 2 99 2 rfl (by decide) rfl rfl) ?_
  (refine S ?_; try exact True.intro)
  refine awp_loop_inv (S := Nat × Bool × Rd × List GParam) [(5, 3), (30, 23)] (fun s => s.2.2.1.Inv ∧ (s.2.1 = true → s.2.2.1.rem + 2 ≤ s.1) ∧ 1 ≤ s.1 ∧ s.2.2.2.length + s.1 ≤ 5000 ∧ paramsF s.1 s.2.1 s.2.2.1 s.2.2.2 = fnB r) (fun s => [(5, rB s.2.1)]) (fun s => ⟨[0, 1], encR s.2.2.1 ++ [(2, .var 78 [rS ⟨#[]⟩, rI 0, .raw (.slice none 0 0), rI 0, rI 0]), (3, .var 78 [rS (r.must (⟨#[102, 110]⟩ : ByteArray)).name.2, rI r.line, .rs 4 s.2.2.2.length 2 s.2.2.2.length, rI 0, rI 0]), (4, .vec 99 2 (s.2.2.2.map eGParam))]⟩) (fun s => s.1) ((fnA r).rem + 2, more (fnA r), fnA r, []) ⟨h3, fun _ => Nat.le_refl _, by (try simp only); omega, by (try simp only [List.length_nil]); omega, rfl⟩ (fle_at rfl (by simp only [go_sem, LLe, Nat.reduceAdd, AV.raw.injEq, Value.int.injEq, Value.slice.injEq, Value.pointer.injEq, AV.rs.injEq, more, List.length_nil]; try omega)) ?_
  rintro ⟨n, b, q, L⟩ ⟨hq, hn1, hn2, hn3, hA⟩ Kr hKr
  simp only at hq hn1 hn2 hn3 hA
  have hqi := hq.lt
  have hqp := hq.pos
  have hql := hq.len
  obtain ⟨n, rfl⟩ : ∃ k, n = k + 1 := ⟨n - 1, by omega⟩
  cases b with
  | false =>
    rw [paramsF] at hA
    have e1 : q = (fnB r).1 := by rw [← hA]
    have e2 : L = (fnB r).2 := by rw [← hA]
    have hmm : ACalls Tryz.prog 53 [pR, rS (⟨#[41]⟩ : ByteArray)] (encR q) (fun v l => v = .tup [] ∧ l = encR (fnC r)) := by rw [e1]; exact must_c (fnB r).1 _ (rok h4)
    by_cases hx : (fnC r).is (⟨#[123]⟩ : ByteArray) = true
    · have ed : fnD r = (fnC r, 0) := by unfold fnD; rw [if_pos hx]
      have ef : fnF r = ((bodyF (fnC r)).1, ⟨(r.must (⟨#[102, 110]⟩ : ByteArray)).name.2, r.line, L, 0, (bodyF (fnC r)).2⟩) := by unfold fnF; rw [ed, ← e2]
      rw [ef] at hKo
      (refine S ?_; try exact True.intro)
      (have W := hx; repeat' (first
    | refine awp_seq_k fun K hK => ?_
    | refine wkA ?_
    | (refine hK _ _ ?_; clear hK K)
    | (refine wcond (fun hc => ?_) (fun hc => ?_) <;> first | contradiction | (exfalso; omega) | skip)
    | (refine hKo _ _ ?_)
    | refine cm (hmm) ?_
    | refine cm (is_c (fnC r) _ (rok h5)) ?_
    | refine cm (body_c h5) ?_
    | refine wkB ?_
    | exact True.intro
    | (clear hK K))); all_goals (try clear W)
      refine retv [.cell 2 78] ?_
      refine VToL.agg (ds := [rS _, rI _, slOf eGParam 2 L, rI _, rI _]) ?_
      exact And.intro (.same _ rfl) (And.intro (.same _ rfl) (And.intro (VTo.row (enc := eGParam) L rfl rfl (by simp)) (And.intro (.same _ rfl) (And.intro (.same _ rfl) trivial))))
    · have hx' : (fnC r).is (⟨#[123]⟩ : ByteArray) = false := by simpa using hx
      have ed : fnD r = typedF (fnC r) := by unfold fnD; rw [if_neg hx]
      rw [ed] at h6
      have ef : fnF r = ((bodyF (typedF (fnC r)).1).1, ⟨(r.must (⟨#[102, 110]⟩ : ByteArray)).name.2, r.line, L, (typedF (fnC r)).2, (bodyF (typedF (fnC r)).1).2⟩) := by unfold fnF; rw [ed, ← e2]
      rw [ef] at hKo
      (refine S ?_; try exact True.intro)
      (have W := hx'; repeat' (first
    | refine awp_seq_k fun K hK => ?_
    | refine wkA ?_
    | (refine hK _ _ ?_; clear hK K)
    | (refine wcond (fun hc => ?_) (fun hc => ?_) <;> first | contradiction | (exfalso; omega) | skip)
    | (refine hKo _ _ ?_)
    | refine cm (hmm) ?_
    | refine cm (is_c (fnC r) _ (rok h5)) ?_
    | refine cm (typed_c h5) ?_
    | refine cm (body_c h6) ?_
    | refine wkB ?_
    | exact True.intro
    | (clear hK K))); all_goals (try clear W)
      refine retv [.cell 2 78] ?_
      refine VToL.agg (ds := [rS _, rI _, slOf eGParam 2 L, rI _, rI _]) ?_
      exact And.intro (.same _ rfl) (And.intro (.same _ rfl) (And.intro (VTo.row (enc := eGParam) L rfl rfl (by simp)) (And.intro (.same _ rfl) (And.intro (.same _ rfl) trivial))))
  | true =>
    have s1 := paramF_st hq
    have hx := s1.inv hq
    have hr1 := s1.rem
    have hxi := hx.lt
    have hxp := hx.pos
    have hxl := hx.len
    have hn1 := hn1 rfl
    have hq1 := (Rd.st_name hq).inv hq
    have hty : ACalls Tryz.prog 56 [pR] (encR q.name.1) (fun v l => v = rI (typedF q.name.1).2 ∧ l = encR (paramF q)) := typed_c hq1
    rw [paramsF] at hA
    (refine S ?_; try exact True.intro)
    (repeat' (first
    | refine awp_seq_k fun K hK => ?_
    | refine wkA ?_
    | (refine hK _ _ ?_; clear hK K)
    | (refine wcond (fun hc => ?_) (fun hc => ?_) <;> first | contradiction | (exfalso; omega) | skip)
    | refine cm (name_c q (rok hq)) ?_
    | refine cm (hty) ?_
    | refine cm (is_c (paramF q) _ (rok hx)) ?_
    | refine wkB ?_
    | exact True.intro
    | (clear hK K)))
    · rw [if_pos hc] at hA
      have hk := Rd.is_kind hc
      have hr2 := Rd.rem_inc hx hk
      refine hKr _ _ (next_mk (n, true, (paramF q).inc, L ++ [⟨q.name.2, (typedF q.name.1).2⟩]) ⟨(Rd.st_inc hx hk.2).1.inv hx, fun _ => by (try simp only); omega, by (try simp only); omega, by (try simp only [List.length_append, List.length_cons, List.length_nil]); omega, hA⟩ (by (try simp only); omega) (by simp only [go_sem, encR, rdCells, List.map_append, List.map_cons, List.map_nil, List.cons_append, List.nil_append, List.length_append, List.length_cons, List.length_nil, Nat.reduceAdd]; (try rfl)) (by simp only [go_sem, LLe, Nat.reduceAdd, AV.raw.injEq, Value.int.injEq, Value.slice.injEq, Value.pointer.injEq, AV.rs.injEq, hc, List.length_append, List.length_cons, List.length_nil]; try omega))
    · rw [if_neg (by rw [hc]; decide)] at hA
      refine hKr _ _ (next_mk (n, false, paramF q, L ++ [⟨q.name.2, (typedF q.name.1).2⟩]) ⟨hx, (by intro h; cases h), by (try simp only); omega, by (try simp only [List.length_append, List.length_cons, List.length_nil]); omega, ?_⟩ (by (try simp only); omega) (by simp only [go_sem, encR, rdCells, List.map_append, List.map_cons, List.map_nil, List.cons_append, List.nil_append, List.length_append, List.length_cons, List.length_nil, Nat.reduceAdd]; (try rfl)) (by simp only [go_sem, LLe, Nat.reduceAdd, AV.raw.injEq, Value.int.injEq, Value.slice.injEq, Value.pointer.injEq, AV.rs.injEq, hc, List.length_append, List.length_cons, List.length_nil]; try omega))
      rw [← hA]
      obtain ⟨n, rfl⟩ : ∃ k, n = k + 1 := ⟨n - 1, by omega⟩
      rw [paramsF]
end Go.Proofs.YtbpmikjlfgfbmaaGreatDoor

namespace Go.Proofs.YtbpmikjlfgfbmaaGreatDoor
open Go Go.Gd
theorem any_take {α : Type} [Inhabited α] (p : α → Bool) (l : List α) {k : Nat} (h : k < l.length) : (l.take (k + 1)).any p = ((l.take k).any p || p (nth l k)) := by
  rw [List.take_succ_eq_append_getElem h, List.any_append, nth_get h]
  simp
def bigU (t : List GNode) (L : List GFunc) (k : Nat) : Bool := decide (300 < (t.length : Int)) || decide (6 < (L.length : Int)) || (L.take k).any fun f => decide (3 < (f.params.length : Int))
theorem bigU_succ (t : List GNode) (L : List GFunc) {k : Nat} (h : k < L.length) : bigU t L (k + 1) = (bigU t L k || decide (3 < ((nth L k).params.length : Int))) := by
  unfold bigU
  rw [any_take _ _ h]
  simp only [Bool.or_assoc]
theorem bigU_all (t : List GNode) (L : List GFunc) {k : Nat} (h : L.length ≤ k) : bigU t L k = bigF t L := by
  unfold bigU bigF
  rw [List.take_of_length_le h]
  have e1 : ∀ n : Nat, decide (300 < (n : Int)) = decide (300 < n) := fun n => decide_eq_decide.2 (by omega)
  have e2 : ∀ n : Nat, decide (6 < (n : Int)) = decide (6 < n) := fun n => decide_eq_decide.2 (by omega)
  have e3 : ∀ n : Nat, decide (3 < (n : Int)) = decide (3 < n) := fun n => decide_eq_decide.2 (by omega)
  simp only [e1, e2, e3]
def zTree : AV := .agg (eGTree ⟨[], []⟩)
set_option maxHeartbeats 4000000 in
set_option maxRecDepth 10000 in
theorem parse_c (s : ByteArray) (hs : s.size ≤ 1000000) : PCall Tryz.prog 21 [rS s] (.tup [.agg (eGTree (parseAll s).1), rI (parseAll s).2.1, rI (parseAll s).2.2]) := by
  by_cases he : (lexAll s).2.2 = 0
  · have hi := rd0_inv he
    have hr0 : (rd0 s).rem ≤ 2000 := by
      have := hi.pos; have := hi.len
      unfold Rd.rem; split <;> omega
    refine entP Tryz.func21 Tryz.ntmps21 ?_
    (have W := he; repeat' (first
    | refine awp_seq_k fun K hK => ?_
    | refine wkA ?_
    | refine dA 12 [10] [0, 1, 2, 3, 4, 5, 6, 7, 8, 9, 10, 11] mixed ?_
    | (refine hK _ _ ?_; clear hK K)
    | (refine wcond (fun hc => ?_) (fun hc => ?_) <;> first | contradiction | (exfalso; omega) | skip)
    | refine cp (lex_c s hs) ?_
    | (refine vAlloc_intro (t := 30) 10 (by simp only [go_sem]; rfl) rfl ?_; (refine S ?_; try exact True.intro))
    | (refine vBox_intro 0 (by simp only [go_sem]) rfl ?_; (refine S ?_; try exact True.intro))
    | refine wkB ?_
    | exact True.intro
    | (clear hK K))); all_goals (try clear W)
    have hKo := hK; clear hK
    refine awp_weak (FLe.nilC 1 0 3 42 5 rfl (by decide) rfl rfl) ?_
    (refine S ?_; try exact True.intro)
    refine awp_weak (FLe.nilC 12 11 1 78 5 rfl (by decide) rfl rfl) ?_
    (refine S ?_; try exact True.intro)
    refine awp_loop_inv (S := Nat × Rd × List GFunc) [(10, 2), (30, 16)] (fun p => p.2.1.Inv ∧ p.2.1.rem + 1 ≤ p.1 ∧ p.2.2.length + p.1 ≤ 5000 ∧ fnsF p.1 p.2.1 p.2.2 = fnsAll s) (fun _ => []) (fun p => ⟨[], [(10, .var 30 [.raw (.slice none 0 0), .raw (.slice none 0 0)]), (0, .var 74 (rdCells p.2.1)), (11, .var 30 [.raw (.slice none 0 0), .rs 12 p.2.2.length 5 p.2.2.length]), (1, .vec 42 5 (p.2.1.nodes.map eGNode)), (12, .vec 78 5 (p.2.2.map eGFunc))]⟩) (fun p => p.1) ((rd0 s).rem + 1, rd0 s, []) ⟨hi, Nat.le_refl _, by (try simp only [List.length_nil]); omega, rfl⟩ (fle_at rfl lle) ?_
    rintro ⟨n, q, L⟩ ⟨hq, hn1, hn2, hA⟩ Kr hKr
    simp only at hq hn1 hn2 hA
    have hqi := hq.lt
    have hqp := hq.pos
    have hql := hq.len
    obtain ⟨n, rfl⟩ : ∃ k, n = k + 1 := ⟨n - 1, by omega⟩
    rw [fnsF] at hA
    by_cases hc1 : q.e = 0 ∧ q.kind 0 = false
    · rw [if_pos hc1] at hA
      obtain ⟨hqe, hqc⟩ := hc1
      obtain ⟨t1, t2⟩ := fnF_st hq
      have t2 := t2 hqe
      have hj := t1.inv hq
      (refine S ?_; try exact True.intro)
      (have W := And.intro hqe (hqc); repeat' (first
    | refine awp_seq_k fun K hK => ?_
    | refine wkA ?_
    | refine dA 12 [10] [0, 1, 2, 3, 4, 5, 6, 7, 8, 9, 10, 11] mixed ?_
    | (refine hK _ _ ?_; clear hK K)
    | (refine wcond (fun hc => ?_) (fun hc => ?_) <;> first | contradiction | (exfalso; omega) | skip)
    | refine cm (kind_c q _ (rok hq)) ?_
    | refine cm (function_c hq) ?_
    | refine wkB ?_
    | exact True.intro
    | (clear hK K))); all_goals (try clear W)
      refine hKr _ _ (next_drop [13] (n, (fnF q).1, L ++ [(fnF q).2]) ⟨hj, by (try simp only); omega, by (try simp only [List.length_append, List.length_cons, List.length_nil]); omega, hA⟩ (by (try simp only); omega) rfl Sd (by simp only [go_sem, rdCells, List.map_append, List.map_cons, List.map_nil, List.length_append, List.length_cons, List.length_nil, Nat.reduceAdd]; (try rfl)) vtl)
    · rw [if_neg hc1] at hA
      have e1 : q = (fnsAll s).1 := by rw [← hA]
      have e2 : L = (fnsAll s).2 := by rw [← hA]
      (refine S ?_; try exact True.intro)
      (repeat' (first
    | refine awp_seq_k fun K hK => ?_
    | refine wkA ?_
    | refine dA 12 [10] [0, 1, 2, 3, 4, 5, 6, 7, 8, 9, 10, 11] mixed ?_
    | (refine hK _ _ ?_; clear hK K)
    | (refine wcond (fun hc => ?_) (fun hc => ?_) <;> first | contradiction | (exfalso; omega) | skip)
    | refine cm (kind_c q _ (rok hq)) ?_
    | refine wkB ?_
    | exact True.intro
    | (clear hK K)))
      all_goals first | (exact absurd ⟨by assumption, by assumption⟩ hc1) | skip
      · have hqe : q.e = 0 := by assumption
        have hee : ¬ (fnsAll s).1.e ≠ 0 := by rw [← e1]; simp [hqe]
        refine hKo _ _ ?_
        clear hKo
        (have W := hqe; repeat' (first
    | refine awp_seq_k fun K hK => ?_
    | refine wkA ?_
    | refine dA 12 [10] [0, 1, 2, 3, 4, 5, 6, 7, 8, 9, 10, 11] mixed ?_
    | (refine hK _ _ ?_; clear hK K)
    | (refine wcond (fun hc => ?_) (fun hc => ?_) <;> first | contradiction | (exfalso; omega) | skip)
    | refine wkB ?_
    | exact True.intro
    | (clear hK K))); all_goals (try clear W)
        have hKo := hK; clear hK
        refine awp_loop_inv (S := Nat) [(12, 2), (75, 18)] (fun k => k ≤ L.length) (fun k => [(12, rB (bigU q.nodes L k)), (13, rI k)]) (fun _ => ⟨[], [(10, .var 30 [.raw (.slice none 0 0), .raw (.slice none 0 0)]), (0, .var 74 (rdCells q)), (11, .var 30 [.rs 1 q.nodes.length 5 q.nodes.length, .rs 12 L.length 5 L.length]), (1, .vec 42 5 (q.nodes.map eGNode)), (12, .vec 78 5 (L.map eGFunc))]⟩) (fun k => L.length - k) 0 (Nat.zero_le _) (fle_at (by simp only [rdCells, hqe]) (by simp only [go_sem, LLe, Nat.reduceAdd, AV.raw.injEq, Value.int.injEq, Value.slice.injEq, Value.pointer.injEq, AV.rs.injEq, bigU, List.take_zero, List.any_nil, Bool.or_false]; try omega)) ?_
        intro k hk Kr hKr
        (refine S ?_; try exact True.intro)
        (repeat' (first
    | refine awp_seq_k fun K hK => ?_
    | refine wkA ?_
    | refine dA 12 [10] [0, 1, 2, 3, 4, 5, 6, 7, 8, 9, 10, 11] mixed ?_
    | (refine hK _ _ ?_; clear hK K)
    | (refine wcond (fun hc => ?_) (fun hc => ?_) <;> first | contradiction | (exfalso; omega) | skip)
    | refine wkB ?_
    | exact True.intro
    | (clear hK K)))
        · have hkl : k < L.length := by omega
          refine hKr _ _ (next_mk (k + 1) (by (try simp only); omega) (by (try simp only); omega) (by simp only [rdCells, hqe]) (by simp only [go_sem, LLe, Nat.reduceAdd, AV.raw.injEq, Value.int.injEq, Value.slice.injEq, Value.pointer.injEq, AV.rs.injEq, bigU_succ _ _ hkl]; try omega))
        · have hbu : bigU q.nodes L k = bigF q.nodes L := bigU_all _ _ (by omega)
          by_cases hbig : bigF q.nodes L = true
          · have ep : parseAll s = (⟨[], []⟩, 0, 4) := by unfold parseAll; rw [if_neg (by simp [he]), if_neg hee, ← e1, ← e2, if_pos hbig]
            rw [ep] at hKo
            refine hKo _ _ ?_
            (have W := And.intro hbu (hbig); repeat' (first
    | refine awp_seq_k fun K hK => ?_
    | refine wkA ?_
    | refine dA 12 [10] [0, 1, 2, 3, 4, 5, 6, 7, 8, 9, 10, 11] mixed ?_
    | (refine hK _ _ ?_; clear hK K)
    | (refine wcond (fun hc => ?_) (fun hc => ?_) <;> first | contradiction | (exfalso; omega) | skip)
    | refine wkB ?_
    | exact True.intro
    | (clear hK K))); all_goals (try clear W)
            refine retv [.cell 2 30, .tmp 3, .tmp 4] ?_
            refine VToL.tup (ds := [.agg (eGTree ⟨[], []⟩), rI _, rI _]) ?_
            exact And.intro (VToL.agg (ds := [slOf eGNode 5 [], slOf eGFunc 5 []]) (And.intro (VTo.nil _ _) (And.intro (VTo.nil _ _) trivial))) (And.intro (.same _ rfl) (And.intro (.same _ rfl) trivial))
          · have hbf : bigF q.nodes L = false := by simpa using hbig
            have ep : parseAll s = (⟨q.nodes, L⟩, 0, 0) := by unfold parseAll; rw [if_neg (by simp [he]), if_neg hee, ← e1, ← e2, if_neg hbig]
            rw [ep] at hKo
            refine hKo _ _ ?_
            (have W := And.intro hbu (hbf); repeat' (first
    | refine awp_seq_k fun K hK => ?_
    | refine wkA ?_
    | refine dA 12 [10] [0, 1, 2, 3, 4, 5, 6, 7, 8, 9, 10, 11] mixed ?_
    | (refine hK _ _ ?_; clear hK K)
    | (refine wcond (fun hc => ?_) (fun hc => ?_) <;> first | contradiction | (exfalso; omega) | skip)
    | refine wkB ?_
    | exact True.intro
    | (clear hK K))); all_goals (try clear W)
            refine retv [.cell 2 30, .tmp 3, .tmp 4] ?_
            refine VToL.tup (ds := [.agg (eGTree ⟨q.nodes, L⟩), rI _, rI _]) ?_
            exact And.intro (VToL.agg (ds := [slOf eGNode 5 q.nodes, slOf eGFunc 5 L]) (And.intro (VTo.row (enc := eGNode) q.nodes rfl rfl (by simp)) (And.intro (VTo.row (enc := eGFunc) L rfl rfl (by simp)) trivial))) (And.intro (.same _ rfl) (And.intro (.same _ rfl) trivial))
      · have hqe : ¬ q.e = 0 := by assumption
        have ep : parseAll s = (⟨[], []⟩, q.at_, q.e) := by unfold parseAll; rw [if_neg (by simp [he]), ← e1, if_pos hqe]
        rw [ep] at hKo
        refine hKo _ _ ?_
        (have W := hqe; repeat' (first
    | refine awp_seq_k fun K hK => ?_
    | refine wkA ?_
    | refine dA 12 [10] [0, 1, 2, 3, 4, 5, 6, 7, 8, 9, 10, 11] mixed ?_
    | (refine hK _ _ ?_; clear hK K)
    | (refine wcond (fun hc => ?_) (fun hc => ?_) <;> first | contradiction | (exfalso; omega) | skip)
    | refine wkB ?_
    | exact True.intro
    | (clear hK K))); all_goals (try clear W)
        refine retv [.cell 2 30, .tmp 3, .tmp 4] ?_
        refine VToL.tup (ds := [.agg (eGTree ⟨[], []⟩), rI _, rI _]) ?_
        exact And.intro (VToL.agg (ds := [slOf eGNode 5 [], slOf eGFunc 5 []]) (And.intro (VTo.nil _ _) (And.intro (VTo.nil _ _) trivial))) (And.intro (.same _ rfl) (And.intro (.same _ rfl) trivial))
  · have ep : parseAll s = (⟨[], []⟩, (lexAll s).2.1, (lexAll s).2.2) := by unfold parseAll; rw [if_pos he]
    rw [ep]
    refine entP Tryz.func21 Tryz.ntmps21 ?_
    (have W := he; repeat' (first
    | refine awp_seq_k fun K hK => ?_
    | refine wkA ?_
    | refine dA 12 [10] [0, 1, 2, 3, 4, 5, 6, 7, 8, 9, 10, 11] mixed ?_
    | (refine hK _ _ ?_; clear hK K)
    | (refine wcond (fun hc => ?_) (fun hc => ?_) <;> first | contradiction | (exfalso; omega) | skip)
    | refine cp (lex_c s hs) ?_
    | refine wkB ?_
    | exact True.intro
    | (clear hK K))); all_goals (try clear W)
    refine retv [.cell 2 30, .tmp 3, .tmp 4] ?_
    refine VToL.tup (ds := [.agg (eGTree ⟨[], []⟩), rI _, rI _]) ?_
    exact And.intro (VToL.agg (ds := [slOf eGNode 5 [], slOf eGFunc 5 []]) (And.intro (VTo.nil _ _) (And.intro (VTo.nil _ _) trivial))) (And.intro (.same _ rfl) (And.intro (.same _ rfl) trivial))
end Go.Proofs.YtbpmikjlfgfbmaaGreatDoor

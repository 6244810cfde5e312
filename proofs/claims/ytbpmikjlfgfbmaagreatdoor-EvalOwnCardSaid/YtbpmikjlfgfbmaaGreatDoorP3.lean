/- strconv.Atoi of digits. The document's parser: an atom. No conditions. -/
import Derived.Test.YtbpmikjlfgfbmaaGreatDoorP2
import Derived.Test.YtbpmikjlfgfbmaaGreatDoorShelf
set_option linter.all false
namespace Go.Gd
open Go
/-- A contract of the library, in which nothing that was there is changed. -/
theorem pcall_below {P : Program} {f : FuncId} {args : List AV} {r : AV} (vals : List Value) (v : Value) (ha : args = vals.map .raw) (hr : ∀ w : NW, RelV w r v) (h : ∀ w : World, Calls P f vals.toArray w fun e w' => e = .returned v ∧ RowKit.Below w.heap.size w w') : PCall P f args r := by
  intro w vs h1 h2
  have hvs : vs = vals.toArray := by
    apply Array.ext'
    apply List.ext_getElem?
    intro i
    obtain ⟨hl, hv⟩ := h2
    subst ha
    by_cases hi : i < vals.length
    · have hi' : i < vs.size := by rw [← hl]; simpa using hi
      have := raw_inv (hv i (.raw vals[i]) vs[i] (by simp [hi]) (by simp [hi']))
      simp [hi, hi', this]
    · have hi' : ¬ i < vs.size := by rw [← hl]; simpa using hi
      rw [List.getElem?_eq_none (by simpa using hi'), List.getElem?_eq_none (by simpa using hi)]
  subst hvs
  refine (h w.toWorld).mono ?_
  rintro e W ⟨rfl, hb⟩
  have ex : Ext w (entry []) (w.to W) (entry []) := { size := hb.size, free := fun b hb' hO => ⟨hb.block b hb', hO⟩, names := fun _ _ _ _ h => h, os := hb.os, tape := hb.tape, output := hb.output, rest := fun b hb' hO hno => ⟨hb.block b hb', hO, hno⟩, base := rfl }
  refine ⟨v, r, entry [], w.to W, rfl, rfl, ⟨rfl, rfl⟩, { rows := fun i row hi => (by cases hi), dom := h1.dom, inj := h1.inj, own := h1.own, glob := h1.glob.keep ex.toKeep, fin := fun b hb' => Nat.lt_of_lt_of_le (h1.fin b hb') hb.size }, hr _, ex.toB⟩
end Go.Gd
namespace Go.Proofs.YtbpmikjlfgfbmaaGreatDoor
open Go Go.Gd
theorem byteAt_list (s : ByteArray) (k : Nat) : byteAt s k = ((s.data.toList.getD k 0).toNat : Int) := by
  unfold byteAt
  simp
/-- The number, as it is reckoned. -/
def numN : List UInt8 → Nat → Nat
  | [], a => a
  | c :: l, a => numN l (a * 10 + (c.toNat - 48))
theorem numN_mono : ∀ (l : List UInt8) (a : Nat), a ≤ numN l a
  | [], a => Nat.le_refl _
  | c :: l, a => Nat.le_trans (by omega) (numN_mono l _)
theorem parse_digits : ∀ (l : List UInt8) (a : Nat), (∀ c ∈ l, 48 ≤ c.toNat ∧ c.toNat ≤ 57) → numN l a ≤ 9223372036854775807 → Lib.parseUint10 a l = .ok (numN l a)
  | [], a, _, _ => rfl
  | c :: l, a, h, hm => by
    have hc := h c (by simp)
    have h1 := numN_mono l (a * 10 + (c.toNat - 48))
    simp only [numN] at hm ⊢
    unfold Lib.parseUint10
    rw [if_pos hc, if_neg (by omega), if_neg (by omega)]
    exact parse_digits l _ (fun x hx => h x (by simp [hx])) hm
theorem numN_append : ∀ (l : List UInt8) (c : UInt8) (a : Nat), numN (l ++ [c]) a = numN l a * 10 + (c.toNat - 48)
  | [], _, _ => rfl
  | _ :: l, c, _ => numN_append l c _
theorem numN_lt : ∀ (l : List UInt8) (a : Nat), (∀ c ∈ l, 48 ≤ c.toNat ∧ c.toNat ≤ 57) → numN l a + 1 ≤ (a + 1) * 10 ^ l.length
  | [], a, _ => by simp [numN]
  | c :: l, a, h => by
    have hc := h c (by simp)
    have ih := numN_lt l (a * 10 + (c.toNat - 48)) (fun x hx => h x (by simp [hx]))
    simp only [numN, List.length_cons, Nat.pow_succ]
    refine Nat.le_trans ih ?_
    rw [Nat.mul_comm (10 ^ l.length) 10, ← Nat.mul_assoc]
    exact Nat.mul_le_mul_right _ (by omega)
theorem numN_ge : ∀ (l : List UInt8) (a : Nat), a * 10 ^ l.length ≤ numN l a
  | [], a => by simp [numN]
  | c :: l, a => by
    have ih := numN_ge l (a * 10 + (c.toNat - 48))
    simp only [numN, List.length_cons, Nat.pow_succ]
    refine Nat.le_trans ?_ ih
    rw [Nat.mul_comm (10 ^ l.length) 10, ← Nat.mul_assoc]
    exact Nat.mul_le_mul_right _ (by omega)
theorem less_num : ∀ (l m : List UInt8) (a : Nat), l.length = m.length → (∀ c ∈ l, 48 ≤ c.toNat ∧ c.toNat ≤ 57) → (∀ c ∈ m, 48 ≤ c.toNat ∧ c.toNat ≤ 57) → Op.bytesLess l m = true → numN l a < numN m a
  | [], [], _, _, _, _, h => by simp [Op.bytesLess] at h
  | [], _ :: _, _, hl, _, _, _ => by simp at hl
  | _ :: _, [], _, hl, _, _, _ => by simp at hl
  | x :: l, y :: m, a, hl, h1, h2, h => by
    have hx := h1 x (by simp)
    have hy := h2 y (by simp)
    simp only [Op.bytesLess, Bool.or_eq_true, decide_eq_true_eq, Bool.and_eq_true, beq_iff_eq] at h
    simp only [numN]
    rcases h with h | ⟨rfl, h⟩
    · have h : x.toNat < y.toNat := h
      have e1 := numN_lt l (a * 10 + (x.toNat - 48)) (fun c hc => h1 c (by simp [hc]))
      have e2 := numN_ge m (a * 10 + (y.toNat - 48))
      have e3 : (a * 10 + (x.toNat - 48) + 1) * 10 ^ l.length ≤ (a * 10 + (y.toNat - 48)) * 10 ^ m.length := by
        rw [show l.length = m.length by simpa using hl]
        exact Nat.mul_le_mul_right _ (by omega)
      omega
    · exact less_num l m _ (by simpa using hl) (fun c hc => h1 c (by simp [hc])) (fun c hc => h2 c (by simp [hc])) h
theorem numF_numN (s : ByteArray) (hd : ∀ j, j < s.size → isDigit (byteAt s j) = true) : ∀ k, k ≤ s.size → numF s k = (numN (s.data.toList.take k) 0 : Nat)
  | 0, _ => by simp [numF, numN]
  | k + 1, hk => by
    have hk' : k < s.data.toList.length := by simp; omega
    have h1 := hd k (by omega)
    simp only [isDigit, Bool.and_eq_true, decide_eq_true_eq] at h1
    rw [byteAt_list] at h1
    rw [numF, numF_numN s hd k (by omega), List.take_succ_eq_append_getElem hk', numN_append, byteAt_list]
    have : s.data.toList.getD k 0 = s.data.toList[k] := by rw [List.getD_eq_getElem?_getD, List.getElem?_eq_getElem hk']; rfl
    rw [this] at h1 ⊢
    omega
theorem numTok_digits {s : ByteArray} (h : NumTok s) : ∀ c ∈ s.data.toList, 48 ≤ c.toNat ∧ c.toNat ≤ 57 := fun c hc => by
  obtain ⟨k, hk, rfl⟩ := List.getElem_of_mem hc
  have := h.2.2 k (by simpa using hk)
  simp only [isDigit, Bool.and_eq_true, decide_eq_true_eq] at this
  rw [byteAt_list, List.getD_eq_getElem?_getD, List.getElem?_eq_getElem hk] at this
  simp only [Option.getD_some] at this
  omega
theorem numTok_le {s : ByteArray} (h : NumTok s) : numN s.data.toList 0 ≤ 9223372036854775807 := by
  have hd := numTok_digits h
  have hn := h.2.1
  have hl := numN_lt s.data.toList 0 hd
  have hlen : s.data.toList.length = s.size := by simp
  unfold isNum at hn
  simp only [Bool.or_eq_true, decide_eq_true_eq, Bool.and_eq_true] at hn
  rcases hn with hn | ⟨hn, h2 | h2⟩
  · have : 10 ^ s.data.toList.length ≤ 10 ^ 18 := Nat.pow_le_pow_right (by omega) (by rw [hlen]; omega)
    simp only [Nat.zero_add, Nat.one_mul] at hl
    omega
  · have e : s.toList = s.data.toList := ByteArray.toList_eq s
    have := less_num s.data.toList [57, 50, 50, 51, 51, 55, 50, 48, 51, 54, 56, 53, 52, 55, 55, 53, 56, 48, 55] 0 (by rw [hlen]; simp; omega) hd (by decide) (by rw [← e, show [57, 50, 50, 51, 51, 55, 50, 48, 51, 54, 56, 53, 52, 55, 55, 53, 56, 48, 55] = (⟨#[57, 50, 50, 51, 51, 55, 50, 48, 51, 54, 56, 53, 52, 55, 55, 53, 56, 48, 55]⟩ : ByteArray).toList by rw [ByteArray.toList_eq]]; exact h2)
    have e2 : numN [57, 50, 50, 51, 51, 55, 50, 48, 51, 54, 56, 53, 52, 55, 55, 53, 56, 48, 55] 0 = 9223372036854775807 := by decide
    omega
  · subst h2
    decide
theorem atoi_all {s : ByteArray} (h : NumTok s) : Lib.atoiAll s.data.toList = .ok (numOf s) := by
  have hd := numTok_digits h
  have hle := numTok_le h
  have hnum : numOf s = (numN s.data.toList 0 : Nat) := by
    unfold numOf
    rw [numF_numN s h.2.2 _ (Nat.le_refl _), List.take_of_length_le (by simp)]
  have hp := parse_digits s.data.toList 0 hd hle
  have hpos := h.1
  cases hs : s.data.toList with
  | nil => have : s.data.toList.length = s.size := by simp
           rw [hs] at this; simp at this; omega
  | cons c l =>
    rw [hs] at hd hp hnum hle
    have hc := hd c (by simp)
    simp only [Lib.atoiAll]
    rw [if_neg (by omega)]
    simp only [Lib.parseMag, List.cons_ne_nil, if_false, hp, reduceCtorEq]
    rw [if_neg (by omega), if_neg (by omega), if_neg (by omega), hnum]
theorem atoi_c (s : ByteArray) (h : NumTok s) : PCall Tryz.prog 101 [rS s] (.tup [rI (numOf s), .raw .nilIface]) := by
  have hs : s.size ≤ 9223372036854775806 := by
    have hn := h.2.1
    unfold isNum at hn
    simp only [Bool.or_eq_true, decide_eq_true_eq, Bool.and_eq_true] at hn
    omega
  refine pcall_below [.string s] (.tuple #[.int .i64 (numOf s), .nilIface]) rfl (fun w => ?_) fun w => ?_
  · exact .tup _ _ rfl fun i a v ha hv => by
      match i with
      | 0 => simp at ha hv; subst ha hv; exact .raw _
      | 1 => simp at ha hv; subst ha hv; exact .raw _
      | i + 2 => simp at ha
  · refine (Tryz.strconv_Atoi_ok s hs (numOf s) (atoi_all h) w).mono ?_
    rintro e W ⟨rfl, hW⟩
    refine ⟨rfl, ?_⟩
    rcases hW with rfl | ⟨t, rfl⟩
    · exact RowKit.Below.refl _ _
    · exact Lib.bytesWorld_below _ _ _
end Go.Proofs.YtbpmikjlfgfbmaaGreatDoor

namespace Go.Proofs.YtbpmikjlfgfbmaaGreatDoor
open Go Go.Gd
set_option maxHeartbeats 8000000 in
set_option maxRecDepth 10000 in
theorem atom_c (n : Nat) (hc : ChainC n) : AtomC (n + 1) := by
  intro r h hn
  have hil := h.lt
  have hip := h.pos
  have hin := h.len
  have hin' : (r.l.length : Int) ≤ 2000 := by omega
  have hch : ∀ q : Rd, q.Inv → 8 * q.rem + 8 ≤ n → ACalls Tryz.prog 83 [pR] (encR q) (fun v l => v = rI (chainF n 0 q).2 ∧ l = encR (chainF n 0 q).1) := fun q hq hm => by
    have := hc 0 q (by omega) hq (by omega)
    refine entM Tryz.func83 Tryz.ntmps83 ?_
    (refine S ?_; try exact True.intro)
    (repeat' (first
    | refine awp_seq_k fun K hK => ?_
    | refine wkA ?_
    | (refine hK _ _ ?_; clear hK K)
    | (refine wcond (fun hc => ?_) (fun hc => ?_) <;> first | contradiction | (exfalso; omega) | skip)
    | refine cm (this) ?_
    | refine wkB ?_
    | exact True.intro
    | (clear hK K)))
    (refine retf [.tmp 2] ?_ ?_ <;> (try simp only [go_sem]))
  have deeper : ∀ (q : Rd) (t u : ByteArray), q.Inv → q.e = 0 → q.down.Inv ∧ (q.down.must t).Inv ∧ (chainF n 0 (q.down.must t)).1.Inv ∧ ((chainF n 0 (q.down.must t)).1.must u).Inv ∧ ((chainF n 0 (q.down.must t)).1.must u).up.Inv ∧ (q.down.must t).rem ≤ q.rem := fun q t u hq he => by
    have h1 := (Rd.down_inv hq he).1
    have s1 := Rd.st_must h1 t
    have h2 := s1.inv h1
    have s2 := (expr_st n).2.2.1 0 _ h2
    have h3 := s2.inv h2
    have s3 := Rd.st_must h3 u
    refine ⟨h1, h2, h3, s3.inv h3, (Rd.st_deep hq he ((s1.trans s2).trans s3)).inv hq, Nat.le_trans s1.rem ?_⟩
    have hd := Rd.down_inv hq he
    unfold Rd.rem
    rw [if_pos he, hd.2.2.1, hd.2.2.2.1]
    split <;> omega
  rw [atomF]
  by_cases he : r.e ≠ 0
  · rw [if_pos he]
    refine entM Tryz.func99 Tryz.ntmps99 ?_
    (refine S ?_; try exact True.intro)
    (repeat' (first
    | refine awp_seq_k fun K hK => ?_
    | refine wkA ?_
    | refine dE 2 [0, 1, 2, 3, 4, 5, 6, 7, 8, 9, 10, 11] mixed ?_
    | (refine hK _ _ ?_; clear hK K)
    | (refine wcond (fun hc => ?_) (fun hc => ?_) <;> first | contradiction | (exfalso; omega) | skip)
    | refine cm (rline_c r (rok h)) ?_
    | refine wkB ?_
    | exact True.intro
    | (clear hK K)))
    (refine retd [.tmp 2] ?_; try simp only [go_sem])
  rw [if_neg he]
  have he : r.e = 0 := by omega
  have hinc : r.tok.kind ≠ 0 → r.inc.Inv ∧ r.inc.rem + 1 ≤ r.rem ∧ r.i + 1 < r.l.length := fun hk => ⟨(Rd.st_inc h hk).1.inv h, Rd.rem_inc h ⟨he, hk⟩, Rd.behind h hk⟩
  by_cases hk1 : r.tok.kind = 1
  · rw [if_pos hk1]
    obtain ⟨hi, _, hb⟩ := hinc (by omega)
    have hnt := h.num r.i.toNat (by omega) hk1
    have hk1' : (nth r.l r.i.toNat).kind = 1 := hk1
    refine entM Tryz.func99 Tryz.ntmps99 ?_
    (refine S ?_; try exact True.intro)
    (have W := And.intro he (hk1'); repeat' (first
    | refine awp_seq_k fun K hK => ?_
    | refine wkA ?_
    | refine dE 2 [0, 1, 2, 3, 4, 5, 6, 7, 8, 9, 10, 11] mixed ?_
    | (refine hK _ _ ?_; clear hK K)
    | (refine wcond (fun hc => ?_) (fun hc => ?_) <;> first | contradiction | (exfalso; omega) | skip)
    | refine cm (rline_c r (rok h)) ?_
    | refine cp (atoi_c _ hnt) ?_
    | refine cm (put_w r.inc _ _ _ _ [] _ VLe.nil (rok hi)) ?_
    | refine wkB ?_
    | exact True.intro
    | (clear hK K))); all_goals (try clear W)
    (refine retd [.tmp 2] ?_; try simp only [go_sem])
    all_goals rfl
  rw [if_neg hk1]
  have hk1' : ¬ (nth r.l r.i.toNat).kind = 1 := hk1
  by_cases hk2 : r.tok.kind = 2
  · rw [if_pos hk2]
    obtain ⟨hi, _, hb⟩ := hinc (by omega)
    have hk2' : (nth r.l r.i.toNat).kind = 2 := hk2
    refine entM Tryz.func99 Tryz.ntmps99 ?_
    (refine S ?_; try exact True.intro)
    (have W := And.intro he (hk2'); repeat' (first
    | refine awp_seq_k fun K hK => ?_
    | refine wkA ?_
    | refine dE 2 [0, 1, 2, 3, 4, 5, 6, 7, 8, 9, 10, 11] mixed ?_
    | (refine hK _ _ ?_; clear hK K)
    | (refine wcond (fun hc => ?_) (fun hc => ?_) <;> first | contradiction | (exfalso; omega) | skip)
    | refine cm (rline_c r (rok h)) ?_
    | refine cm (put_w r.inc _ _ _ _ [] _ VLe.nil (rok hi)) ?_
    | refine wkB ?_
    | exact True.intro
    | (clear hK K))); all_goals (try clear W)
    (refine retd [.tmp 2] ?_; try simp only [go_sem])
    all_goals rfl
  rw [if_neg hk2]
  have hk2' : ¬ (nth r.l r.i.toNat).kind = 2 := hk2
  by_cases hk3 : r.tok.kind = 3
  · rw [if_pos hk3]
    obtain ⟨hi, hr, hb⟩ := hinc (by omega)
    have hk3' : (nth r.l r.i.toNat).kind = 3 := hk3
    by_cases hx : r.inc.is (⟨#[91]⟩ : ByteArray) = true
    · rw [if_pos hx]
      obtain ⟨d1, d2, d3, d4, d5, d6⟩ := deeper r.inc (⟨#[91]⟩ : ByteArray) (⟨#[93]⟩ : ByteArray) hi he
      have d4l := d4.dlo
      have d4h := d4.dhi
      refine entM Tryz.func99 Tryz.ntmps99 ?_
      (refine S ?_; try exact True.intro)
      (have W := And.intro he (And.intro hk3' (hx)); repeat' (first
    | refine awp_seq_k fun K hK => ?_
    | refine wkA ?_
    | refine dE 2 [0, 1, 2, 3, 4, 5, 6, 7, 8, 9, 10, 11] mixed ?_
    | (refine hK _ _ ?_; clear hK K)
    | (refine wcond (fun hc => ?_) (fun hc => ?_) <;> first | contradiction | (exfalso; omega) | skip)
    | refine cm (rline_c r (rok h)) ?_
    | refine cm (is_c r.inc _ (rok hi)) ?_
    | refine cm (down_c r.inc (rok hi)) ?_
    | refine cm (must_c r.inc.down _ (rok d1)) ?_
    | refine cm (hch (r.inc.down.must (⟨#[91]⟩ : ByteArray)) d2 (by omega)) ?_
    | refine cm (must_c (chainF n 0 (r.inc.down.must (⟨#[91]⟩ : ByteArray))).1 _ (rok d3)) ?_
    | refine cm (put_w ((chainF n 0 (r.inc.down.must (⟨#[91]⟩ : ByteArray))).1.must (⟨#[93]⟩ : ByteArray)).up _ _ _ _ [(chainF n 0 (r.inc.down.must (⟨#[91]⟩ : ByteArray))).2] _ VLe.sl (rok d5)) ?_
    | refine wkB ?_
    | exact True.intro
    | (clear hK K))); all_goals (try clear W)
      (refine retd [.tmp 2] ?_; try simp only [go_sem])
      all_goals rfl
    · rw [if_neg hx]
      have hx' : r.inc.is (⟨#[91]⟩ : ByteArray) = false := by simpa using hx
      refine entM Tryz.func99 Tryz.ntmps99 ?_
      (refine S ?_; try exact True.intro)
      (have W := And.intro he (And.intro hk3' (hx')); repeat' (first
    | refine awp_seq_k fun K hK => ?_
    | refine wkA ?_
    | refine dE 2 [0, 1, 2, 3, 4, 5, 6, 7, 8, 9, 10, 11] mixed ?_
    | (refine hK _ _ ?_; clear hK K)
    | (refine wcond (fun hc => ?_) (fun hc => ?_) <;> first | contradiction | (exfalso; omega) | skip)
    | refine cm (rline_c r (rok h)) ?_
    | refine cm (is_c r.inc _ (rok hi)) ?_
    | refine cm (put_w r.inc _ _ _ _ [] _ VLe.nil (rok hi)) ?_
    | refine wkB ?_
    | exact True.intro
    | (clear hK K))); all_goals (try clear W)
      (refine retd [.tmp 2] ?_; try simp only [go_sem])
      all_goals rfl
  rw [if_neg hk3]
  have hk3' : ¬ (nth r.l r.i.toNat).kind = 3 := hk3
  by_cases ht : r.is (⟨#[116, 114, 117, 101]⟩ : ByteArray) = true
  · rw [if_pos ht]
    obtain ⟨hi, hr, hb⟩ := hinc (Rd.is_kind ht).2
    refine entM Tryz.func99 Tryz.ntmps99 ?_
    (refine S ?_; try exact True.intro)
    (have W := And.intro he (And.intro ht (And.intro hk1' (And.intro hk2' (hk3')))); repeat' (first
    | refine awp_seq_k fun K hK => ?_
    | refine wkA ?_
    | refine dE 2 [0, 1, 2, 3, 4, 5, 6, 7, 8, 9, 10, 11] mixed ?_
    | (refine hK _ _ ?_; clear hK K)
    | (refine wcond (fun hc => ?_) (fun hc => ?_) <;> first | contradiction | (exfalso; omega) | skip)
    | refine cm (rline_c r (rok h)) ?_
    | refine cm (is_c r _ (rok h)) ?_
    | refine cm (put_w r.inc _ _ _ _ [] _ VLe.nil (rok hi)) ?_
    | refine wkB ?_
    | exact True.intro
    | (clear hK K))); all_goals (try clear W)
    (refine retd [.tmp 2] ?_; try simp only [go_sem])
  rw [if_neg ht]
  have ht' : r.is (⟨#[116, 114, 117, 101]⟩ : ByteArray) = false := by simpa using ht
  by_cases hf : r.is (⟨#[102, 97, 108, 115, 101]⟩ : ByteArray) = true
  · rw [if_pos hf]
    obtain ⟨hi, hr, hb⟩ := hinc (Rd.is_kind hf).2
    refine entM Tryz.func99 Tryz.ntmps99 ?_
    (refine S ?_; try exact True.intro)
    (have W := And.intro he (And.intro ht' (And.intro hf (And.intro hk1' (And.intro hk2' (hk3'))))); repeat' (first
    | refine awp_seq_k fun K hK => ?_
    | refine wkA ?_
    | refine dE 2 [0, 1, 2, 3, 4, 5, 6, 7, 8, 9, 10, 11] mixed ?_
    | (refine hK _ _ ?_; clear hK K)
    | (refine wcond (fun hc => ?_) (fun hc => ?_) <;> first | contradiction | (exfalso; omega) | skip)
    | refine cm (rline_c r (rok h)) ?_
    | refine cm (is_c r _ (rok h)) ?_
    | refine cm (put_w r.inc _ _ _ _ [] _ VLe.nil (rok hi)) ?_
    | refine wkB ?_
    | exact True.intro
    | (clear hK K))); all_goals (try clear W)
    (refine retd [.tmp 2] ?_; try simp only [go_sem])
  rw [if_neg hf]
  have hf' : r.is (⟨#[102, 97, 108, 115, 101]⟩ : ByteArray) = false := by simpa using hf
  by_cases hl : r.is (⟨#[108, 101, 110]⟩ : ByteArray) = true
  · rw [if_pos hl]
    obtain ⟨hi, hr, hb⟩ := hinc (Rd.is_kind hl).2
    by_cases hx : r.inc.is (⟨#[40]⟩ : ByteArray) = true
    · rw [if_pos hx]
      obtain ⟨d1, d2, d3, d4, d5, d6⟩ := deeper r.inc (⟨#[40]⟩ : ByteArray) (⟨#[41]⟩ : ByteArray) hi he
      have d4l := d4.dlo
      have d4h := d4.dhi
      refine entM Tryz.func99 Tryz.ntmps99 ?_
      (refine S ?_; try exact True.intro)
      (have W := And.intro he (And.intro ht' (And.intro hf' (And.intro hl (And.intro hk1' (And.intro hk2' (And.intro hk3' (hx))))))); repeat' (first
    | refine awp_seq_k fun K hK => ?_
    | refine wkA ?_
    | refine dE 2 [0, 1, 2, 3, 4, 5, 6, 7, 8, 9, 10, 11] mixed ?_
    | (refine hK _ _ ?_; clear hK K)
    | (refine wcond (fun hc => ?_) (fun hc => ?_) <;> first | contradiction | (exfalso; omega) | skip)
    | refine cm (rline_c r (rok h)) ?_
    | refine cm (is_c r _ (rok h)) ?_
    | refine cm (is_c r.inc _ (rok hi)) ?_
    | refine cm (down_c r.inc (rok hi)) ?_
    | refine cm (must_c r.inc.down _ (rok d1)) ?_
    | refine cm (hch (r.inc.down.must (⟨#[40]⟩ : ByteArray)) d2 (by omega)) ?_
    | refine cm (must_c (chainF n 0 (r.inc.down.must (⟨#[40]⟩ : ByteArray))).1 _ (rok d3)) ?_
    | refine cm (put_w ((chainF n 0 (r.inc.down.must (⟨#[40]⟩ : ByteArray))).1.must (⟨#[41]⟩ : ByteArray)).up _ _ _ _ [(chainF n 0 (r.inc.down.must (⟨#[40]⟩ : ByteArray))).2] _ VLe.sl (rok d5)) ?_
    | refine wkB ?_
    | exact True.intro
    | (clear hK K))); all_goals (try clear W)
      (refine retd [.tmp 2] ?_; try simp only [go_sem])
    · rw [if_neg hx]
      have hx' : r.inc.is (⟨#[40]⟩ : ByteArray) = false := by simpa using hx
      refine entM Tryz.func99 Tryz.ntmps99 ?_
      (refine S ?_; try exact True.intro)
      (have W := And.intro he (And.intro ht' (And.intro hf' (And.intro hl (And.intro hk1' (And.intro hk2' (And.intro hk3' (hx'))))))); repeat' (first
    | refine awp_seq_k fun K hK => ?_
    | refine wkA ?_
    | refine dE 2 [0, 1, 2, 3, 4, 5, 6, 7, 8, 9, 10, 11] mixed ?_
    | (refine hK _ _ ?_; clear hK K)
    | (refine wcond (fun hc => ?_) (fun hc => ?_) <;> first | contradiction | (exfalso; omega) | skip)
    | refine cm (rline_c r (rok h)) ?_
    | refine cm (is_c r _ (rok h)) ?_
    | refine cm (is_c r.inc _ (rok hi)) ?_
    | refine cm (fails_c r.inc _ (rok hi)) ?_
    | refine wkB ?_
    | exact True.intro
    | (clear hK K))); all_goals (try clear W)
      (refine retd [.tmp 2] ?_; try simp only [go_sem])
  rw [if_neg hl]
  have hl' : r.is (⟨#[108, 101, 110]⟩ : ByteArray) = false := by simpa using hl
  by_cases hx : r.is (⟨#[40]⟩ : ByteArray) = true
  · rw [if_pos hx]
    obtain ⟨hi, hr, hb⟩ := hinc (Rd.is_kind hx).2
    obtain ⟨d1, d2, d3, d4, d5, d6⟩ := deeper r (⟨#[40]⟩ : ByteArray) (⟨#[41]⟩ : ByteArray) h he
    have d4l := d4.dlo
    have d4h := d4.dhi
    have d7 : (r.down.must (⟨#[40]⟩ : ByteArray)).rem + 1 ≤ r.rem := by
      have hdn := Rd.down_inv h he
      unfold Rd.rem
      rw [if_pos he]
      have hl2 : (r.down.must (⟨#[40]⟩ : ByteArray)).l = r.l := (Rd.st_must d1 _).l.trans hdn.2.2.2.1
      rw [hl2]
      by_cases hq : r.down.is (⟨#[40]⟩ : ByteArray) = true
      · have : r.down.must (⟨#[40]⟩ : ByteArray) = r.down.inc := by unfold Rd.must; rw [if_pos hq]
        rw [this]
        have : r.down.inc.i = r.i + 1 := by show r.down.i + 1 = _; rw [hdn.2.2.1]
        rw [this]
        split <;> omega
      · have hm : r.down.must (⟨#[40]⟩ : ByteArray) = r.down.fails 20 := by unfold Rd.must; rw [if_neg hq]
        rw [hm]
        have : (r.down.fails 20).e ≠ 0 := by
          unfold Rd.fails
          split
          · show (20 : Int) ≠ 0; decide
          · assumption
        rw [if_neg this]
        omega
    refine entM Tryz.func99 Tryz.ntmps99 ?_
    (refine S ?_; try exact True.intro)
    (have W := And.intro he (And.intro ht' (And.intro hf' (And.intro hl' (And.intro hk1' (And.intro hk2' (And.intro hk3' (hx))))))); repeat' (first
    | refine awp_seq_k fun K hK => ?_
    | refine wkA ?_
    | refine dE 2 [0, 1, 2, 3, 4, 5, 6, 7, 8, 9, 10, 11] mixed ?_
    | (refine hK _ _ ?_; clear hK K)
    | (refine wcond (fun hc => ?_) (fun hc => ?_) <;> first | contradiction | (exfalso; omega) | skip)
    | refine cm (rline_c r (rok h)) ?_
    | refine cm (is_c r _ (rok h)) ?_
    | refine cm (down_c r (rok h)) ?_
    | refine cm (must_c r.down _ (rok d1)) ?_
    | refine cm (hch (r.down.must (⟨#[40]⟩ : ByteArray)) d2 (by omega)) ?_
    | refine cm (must_c (chainF n 0 (r.down.must (⟨#[40]⟩ : ByteArray))).1 _ (rok d3)) ?_
    | refine wkB ?_
    | exact True.intro
    | (clear hK K))); all_goals (try clear W)
    (refine retd [.tmp 2] ?_; try simp only [go_sem])
  rw [if_neg hx]
  have hx' : r.is (⟨#[40]⟩ : ByteArray) = false := by simpa using hx
  refine entM Tryz.func99 Tryz.ntmps99 ?_
  (refine S ?_; try exact True.intro)
  (have W := And.intro he (And.intro ht' (And.intro hf' (And.intro hl' (And.intro hk1' (And.intro hk2' (And.intro hk3' (hx'))))))); repeat' (first
    | refine awp_seq_k fun K hK => ?_
    | refine wkA ?_
    | refine dE 2 [0, 1, 2, 3, 4, 5, 6, 7, 8, 9, 10, 11] mixed ?_
    | (refine hK _ _ ?_; clear hK K)
    | (refine wcond (fun hc => ?_) (fun hc => ?_) <;> first | contradiction | (exfalso; omega) | skip)
    | refine cm (rline_c r (rok h)) ?_
    | refine cm (is_c r _ (rok h)) ?_
    | refine cm (fails_c r _ (rok h)) ?_
    | refine wkB ?_
    | exact True.intro
    | (clear hK K))); all_goals (try clear W)
  (refine retd [.tmp 2] ?_; try simp only [go_sem])
theorem exprs : ∀ m n, n ≤ m → AtomC n ∧ FactorC n ∧ ChainC n
  | 0, 0, _ => ⟨fun r h hn => by omega, fun r h hn => by omega, fun lv r hl h hn => by omega⟩
  | m + 1, 0, _ => ⟨fun r h hn => by omega, fun r h hn => by omega, fun lv r hl h hn => by omega⟩
  | m + 1, n + 1, hm => by
    obtain ⟨ha, hf, hc⟩ := exprs m n (by omega)
    exact ⟨atom_c n hc, factor_c n ha hf, chain_c n hf fun k hk => (exprs m k (by omega)).2.2⟩
set_option maxHeartbeats 1000000 in
theorem expr_c (n : Nat) (r : Rd) (h : r.Inv) (hn : 8 * r.rem + 8 ≤ n) : ACalls Tryz.prog 83 [pR] (encR r) (fun v l => v = rI (chainF n 0 r).2 ∧ l = encR (chainF n 0 r).1) := by
  have := (exprs n n (Nat.le_refl _)).2.2 0 r (by omega) h (by omega)
  refine entM Tryz.func83 Tryz.ntmps83 ?_
  (refine S ?_; try exact True.intro)
  (repeat' (first
    | refine awp_seq_k fun K hK => ?_
    | refine wkA ?_
    | (refine hK _ _ ?_; clear hK K)
    | (refine wcond (fun hc => ?_) (fun hc => ?_) <;> first | contradiction | (exfalso; omega) | skip)
    | refine cm (this) ?_
    | refine wkB ?_
    | exact True.intro
    | (clear hK K)))
  (refine retf [.tmp 2] ?_ ?_ <;> (try simp only [go_sem]))
end Go.Proofs.YtbpmikjlfgfbmaaGreatDoor

/- That quiet operations give what is reckoned of them. Quiet operations, the rest: cuts, conversions, literals of structs; and all of them in one. All quiet operations in one; what the others ask; a list of operations, walked. No conditions. -/
import Derived.Test.YtbpmikjlfgfbmaaGreatDoorGdM
import Derived.WalkKit
set_option linter.all false
namespace Go.Gd
open Go

section
variable {P : Program} {w : NW} {H : Hp}

theorem good_val {s : Sem Value} {q : PA} {v : Value} (h : q.1 → s.run P w.toWorld = .ok v w.toWorld) (hr : q.1 → RelV w q.2 v) : Fair P w s q := fun hq => ⟨v, h hq, hr hq⟩
theorem unG_rel {a : AV} {v : Value} (h : RelV w a v) (hp : (unG a).1 = true) : RelV w (unG a).2 v := by
  unfold unG at *
  split
  · cases h with | gd p a v hh hu => exact hh hp
  · exact h

theorem qPick_good {c a b : AV} {vc va vb : Value} (hc : RelV w c vc) (ha : RelV w a va) (hb : RelV w b vb) : Fair P w (do pure (if ← asBool vc then va else vb)) (qPick c a b) := by
  intro hq
  unfold qPick at *
  split at hq
  · rename_i cb pa x pb y e1 e2
    have := raw_inv hc
    subst this
    cases cb with
    | true =>
      have h := unG_rel ha (by rw [e1]; exact hq.1 rfl)
      rw [e1] at h
      have := raw_inv h
      subst this
      exact ⟨.bool x, by simp [asBool], by simpa [bsel] using RelV.raw _⟩
    | false =>
      have h := unG_rel hb (by rw [e2]; exact hq.2 rfl)
      rw [e2] at h
      have := raw_inv h
      subst this
      exact ⟨.bool y, by simp [asBool], by simpa [bsel] using RelV.raw _⟩
  · exact hq.elim

theorem qInt_good (op : BinOp) (t : TypeId) (k : IntKind) (a : Int) (k' : IntKind) (b : Int) (x y : Operand) : Fair P w (do eqGuard op t x y (.int k a) (.int k' b); binOp op t (.int k a) (.int k' b)) (qInt op k a k' b) := by
  intro hq
  cases op <;> simp only [qInt] at hq ⊢
  case shl =>
    have h0 : ¬ b < 0 := by omega
    exact ⟨_, by simp [eqGuard_at_int, binOp, Op.shift, h0], .raw _⟩
  case shr =>
    have h0 : ¬ b < 0 := by omega
    exact ⟨_, by simp [eqGuard_at_int, binOp, Op.shift, h0], .raw _⟩
  case quo => obtain ⟨rfl, h0⟩ := hq; exact ⟨_, by simp [eqGuard_at_int, binOp, Op.intDiv, h0], .raw _⟩
  case rem => obtain ⟨rfl, h0⟩ := hq; exact ⟨_, by simp [eqGuard_at_int, binOp, Op.intDiv, h0], .raw _⟩
  case and => subst hq; exact ⟨_, by simp [eqGuard_at_int, binOp, Op.intBits, bitsOf], .raw _⟩
  case or => subst hq; exact ⟨_, by simp [eqGuard_at_int, binOp, Op.intBits, bitsOf], .raw _⟩
  case xor => subst hq; exact ⟨_, by simp [eqGuard_at_int, binOp, Op.intBits, bitsOf], .raw _⟩
  case andNot => subst hq; exact ⟨_, by simp [eqGuard_at_int, binOp, Op.intBits, bitsOf], .raw _⟩
  case eql => subst hq; exact ⟨.bool (decide (a = b)), by simp [eqGuard_at_int, binOp, Op.intCmp, beq_dec], .raw _⟩
  case neq => subst hq; exact ⟨.bool (!decide (a = b)), by simp [eqGuard_at_int, binOp, Op.intCmp, bne, beq_dec], .raw _⟩
  all_goals (subst hq; exact ⟨_, by simp [eqGuard_at_int, binOp, Op.intArith, Op.intCmp]; try rfl, .raw _⟩)

theorem qStr_good (op : BinOp) (t : TypeId) (a b : ByteArray) (x y : Operand) : Fair P w (do eqGuard op t x y (.string a) (.string b); binOp op t (.string a) (.string b)) (qStr op a b) := by
  intro hq
  cases op <;> simp only [qStr] at hq ⊢
  case add =>
    have h0 : ¬ (((a.size + b.size : Nat) : Int) > IntKind.i64.max) := by rw [IntKind.max_i64]; omega
    exact ⟨_, by simp only [eqGuard_at_string, binOp, Op.stringOp, pure_bind, if_neg h0, Sem.run_pure], .raw _⟩
  case eql => exact ⟨_, by simp [eqGuard_at_string, binOp, Op.stringOp, toList_eq_iff], .raw _⟩
  case neq => exact ⟨_, by simp [eqGuard_at_string, binOp, Op.stringOp, toList_eq_iff], .raw _⟩
  case lss => exact ⟨_, by simp [eqGuard_at_string, binOp, Op.stringOp], .raw _⟩
  case gtr => exact ⟨_, by simp [eqGuard_at_string, binOp, Op.stringOp, toList_eq_iff], .raw _⟩
  case leq => exact ⟨_, by simp [eqGuard_at_string, binOp, Op.stringOp, toList_eq_iff], .raw _⟩
  case geq => exact ⟨_, by simp [eqGuard_at_string, binOp, Op.stringOp], .raw _⟩
  all_goals exact hq.elim

theorem qNil_good {a : AV} {v : Value} (x : Operand) {ρ : Operand → Value} (hx : ρ x = v) (h : RelV w a v) (o : Oper) (ho : o.op = .nilCheck x) : (qNil a).1 → ∃ v', (execOp ρ o).run P w.toWorld = .ok (.value v') w.toWorld ∧ RelV w (qNil a).2 v' := by
  intro hq
  unfold qNil at *
  split at hq <;> try exact hq.elim
  · cases h with | ip _ ad vs hb hH hcell hr => exact ⟨.pointer (some ad), by simp [execOp, ho, hx], .ip _ ad vs hb hH hcell hr⟩
  · cases h with | pt _ _ _ _ b t s hn => exact ⟨_, by simp [execOp, ho, hx], .pt _ _ _ _ b t s hn⟩
  all_goals (have := raw_inv h; subst this; exact ⟨_, by simp [execOp, ho, hx]; try rfl, .raw _⟩)

theorem ptrT {t : TypeId} (h : isPtrT P t = true) : ∃ e, P.underlying t = some (.pointer e) := by
  unfold isPtrT at h; split at h <;> simp_all
theorem boolT {t : TypeId} (h : isBoolT P t = true) : P.underlying t = some .bool := by
  unfold isBoolT at h; split at h <;> simp_all
theorem strT {t : TypeId} (h : isStrT P t = true) : P.underlying t = some .string := by
  unfold isStrT at h; split at h <;> simp_all
theorem sliceT {t : TypeId} (h : isSliceT P t = true) : ∃ e, P.underlying t = some (.slice e) := by
  unfold isSliceT at h; split at h <;> simp_all

theorem equal_of {t : TypeId} {x y : Value} {r : Bool} (h : ∀ d, (Op.equalIn (d + 1) t x y).run P w.toWorld = .ok r w.toWorld) : (Op.equal t x y).run P w.toWorld = .ok r w.toWorld := h 9999

theorem eqne_run {ne : Bool} {t : TypeId} {x y : Operand} {a b : Value} {r : Bool} (hg : ∀ op, eqGuard op t x y a b = pure ()) (h1 : binOp .eql t a b = (do pure (.bool (← Op.equal t a b)))) (h2 : binOp .neq t a b = (do pure (.bool (!(← Op.equal t a b)))))
    (he : (Op.equal t a b).run P w.toWorld = .ok r w.toWorld) : ∃ v, (do eqGuard (if ne then .neq else .eql) t x y a b; binOp (if ne then .neq else .eql) t a b : Sem Value).run P w.toWorld = .ok v w.toWorld ∧ RelV w (.raw (.bool (ne ^^ r))) v := by
  cases ne
  · simp only [Bool.false_eq_true, if_false, hg, h1, Sem.run_bind, he, Sem.run_pure, Result.andThen_ok]
    exact ⟨_, rfl, by simpa using RelV.raw _⟩
  · simp only [if_true, hg, h2, Sem.run_bind, he, Sem.run_pure, Result.andThen_ok]
    exact ⟨_, rfl, by simpa using RelV.raw _⟩

theorem qEqNe_good (ne : Bool) (t : TypeId) {a b : AV} {va vb : Value} (x y : Operand) (ha : RelV w a va) (hb : RelV w b vb) :
    Fair P w (do eqGuard (if ne then .neq else .eql) t x y va vb; binOp (if ne then .neq else .eql) t va vb) (qEqNe P ne t a b) := by
  intro hq
  unfold qEqNe at *
  split at hq <;> try exact hq.elim
  · have := raw_inv ha; have := raw_inv hb; subst_vars
    have ht := boolT hq
    exact eqne_run (fun op => eqGuard_at_bool _ _ _ _ _ _) rfl rfl (equal_of (fun d => by simp [Op.equalIn, run_underlying ht]))
  · have := raw_inv ha; have := raw_inv hb; subst_vars
    obtain ⟨e, ht⟩ := ptrT hq
    exact eqne_run (fun op => eqGuard_at_pointer _ _ _ _ _ _) rfl rfl (equal_of (fun d => by simp [Op.equalIn, run_underlying ht]))
  · have := raw_inv ha; have := raw_inv hb; subst_vars
    obtain ⟨e, ht⟩ := ptrT hq
    rename_i pa
    have := eqne_run (P := P) (w := w) (ne := ne) (t := t) (x := x) (y := y) (a := .pointer (some pa)) (b := .pointer none) (r := false) (fun op => eqGuard_at_pointer _ _ _ _ _ _) rfl rfl (equal_of (fun d => by simp [Op.equalIn, run_underlying ht]))
    simpa using this
  · have := raw_inv hb; subst_vars
    obtain ⟨e, ht⟩ := ptrT hq
    cases ha with | ip cs ad vs _ _ _ _ =>
    have := eqne_run (P := P) (w := w) (ne := ne) (t := t) (x := x) (y := y) (a := .pointer (some ad)) (b := .pointer none) (r := false) (fun op => eqGuard_at_pointer _ _ _ _ _ _) rfl rfl (equal_of (fun d => by simp [Op.equalIn, run_underlying ht]))
    simpa using this
  · have := raw_inv hb; subst_vars
    obtain ⟨e, ht⟩ := ptrT hq
    rename_i i m k j
    cases ha with | pt _ _ _ _ bb tt ss _ =>
    have := eqne_run (P := P) (w := w) (ne := ne) (t := t) (x := x) (y := y) (a := .pointer (some ⟨bb, k * ss + j, none⟩)) (b := .pointer none) (r := false) (fun op => eqGuard_at_pointer _ _ _ _ _ _) rfl rfl (equal_of (fun d => by simp [Op.equalIn, run_underlying ht]))
    simpa using this
  · have := raw_inv ha; have := raw_inv hb; subst_vars
    obtain ⟨e, ht⟩ := sliceT hq
    exact eqne_run (fun op => eqGuard_at_slice _ _ _ _ _ _ _ _) rfl rfl (equal_of (fun d => by simp [Op.equalIn, run_underlying ht]))
  · have := raw_inv ha; have := raw_inv hb; subst_vars
    obtain ⟨e, ht⟩ := sliceT hq
    rename_i pa n c m d
    have := eqne_run (P := P) (w := w) (ne := ne) (t := t) (x := x) (y := y) (a := .slice (some pa) n c) (b := .slice none m d) (r := false) (fun op => eqGuard_at_slice _ _ _ _ _ _ _ _) rfl rfl (equal_of (fun d => by simp [Op.equalIn, run_underlying ht]))
    simpa using this
  · split at hq
    · rename_i ks hks
      exact agg_eq hks hq.1 hq.2.1 hq.2.2 ha hb
    · exact hq.elim

theorem qBin_good (op : BinOp) (t : TypeId) {a b : AV} {va vb : Value} (x y : Operand) (ha : RelV w a va) (hb : RelV w b vb) :
    Fair P w (do eqGuard op t x y va vb; binOp op t va vb) (qBin P op t a b) := by
  unfold qBin
  split
  · have := raw_inv ha; have := raw_inv hb; subst_vars; exact qInt_good op t _ _ _ _ x y
  · have := raw_inv ha; have := raw_inv hb; subst_vars; exact qStr_good op t _ _ x y
  · split
    · exact qEqNe_good false t x y ha hb
    · exact qEqNe_good true t x y ha hb
    · exact good_no

theorem qUn_good (op : UnOp) {a : AV} {v : Value} (h : RelV w a v) : Fair P w (Op.unary op v) (qUn op a) := by
  intro hq
  unfold qUn at *
  split at hq <;> try exact hq.elim
  · have := raw_inv h; subst this; exact ⟨_, by simp [Op.unary], .raw _⟩
  · have := raw_inv h; subst this; exact ⟨_, by simp [Op.unary, Op.intArith], .raw _⟩

theorem qLoad_good (t : TypeId) {a : AV} {v : Value} (h : RelV w a v) (hw : RelW w H) : Fair P w (Instr.loadAt t v) (qLoad P H t a) := by
  intro hq
  unfold qLoad at *
  split at hq <;> try exact hq.elim
  · rename_i c cs k e1 e2 e3
    exact loadAt_sound h hw e1 hq.1 e2 e3 hq.2.1 hq.2.2
  · rename_i c cs k e1 e2 e3
    have := loadAt_sound (P := P) h hw e1 hq.1 e2 e3 hq.2.1 hq.2.2
    simpa [loaded] using this

theorem fOff_spec {t : TypeId} {f off : Nat} (h : fOff P t f = some off) : ∃ fs fd k, P.underlying t = some (.struct fs) ∧ fs[f]? = some fd ∧ szOf P fd.type = some (k + 1) ∧ fd.offset = off := by
  unfold fOff at h
  split at h
  · rename_i fs hu
    split at h
    · rename_i fd hf
      split at h
      · rename_i k hk; exact ⟨fs, fd, k, hu, hf, hk, by simpa using h⟩
      · cases h
    · cases h
  · cases h

theorem qFieldAddr_good (t : TypeId) (f : Nat) {a : AV} {v : Value} (h : RelV w a v) : Fair P w (Instr.fieldAt t v f) (qFieldAddr P t a f) := by
  intro hq
  unfold qFieldAddr at *
  split at hq <;> try exact hq.elim
  · rename_i cs off e
    obtain ⟨fs, fd, k, hu, hf, hk, rfl⟩ := fOff_spec e
    cases h with | ip _ ad vs hb hH hcell hr =>
    refine ⟨.pointer (some (ad.add fd.offset)), ?_, .ip _ _ (fun j => vs (fd.offset + j)) (by rw [block_of_add]; exact hb) (by rw [block_of_add]; exact hH) (fun j hj => ?_) (fun j u hu => ?_)⟩
    · simp [Instr.fieldAt, run_underlying hu, hf, Instr.sureAddr, fieldPlace, run_sizeOf' hk]
    · rw [add_of_add]; exact hcell _ (by simp at hj; omega)
    · rw [List.getElem?_drop] at hu; exact hr _ _ hu
  · rename_i i m q j off e
    obtain ⟨fs, fd, k, hu, hf, hk, rfl⟩ := fOff_spec e
    cases h with | pt _ _ _ _ b t s hn =>
    refine ⟨.pointer (some ⟨b, q * s + j + fd.offset, none⟩), ?_, ?_⟩
    · simp [Instr.fieldAt, run_underlying hu, hf, Instr.sureAddr, fieldPlace, run_sizeOf' hk, add_plain]
    · rw [Nat.add_assoc]; exact .pt i m q (j + fd.offset) b t s hn

theorem fTy_spec {t ft : TypeId} {f off : Nat} (h : fTy P t f = some (ft, off)) : ∃ fs fd, P.underlying t = some (.struct fs) ∧ fs[f]? = some fd ∧ fd.type = ft ∧ fd.offset = off := by
  unfold fTy at h
  split at h
  · rename_i fs hu
    simp only [Option.map_eq_some_iff, Prod.mk.injEq] at h
    obtain ⟨fd, hf, h1, h2⟩ := h
    exact ⟨fs, fd, hu, hf, h1, h2⟩
  · cases h

theorem qPart_good (t : TypeId) {cs : List AV} {vs : Array Value} (hl : cs.length = vs.size) (hr : ∀ (i : Nat) a v, cs[i]? = some a → vs[i]? = some v → RelV w a v) (off : Nat) : Fair P w (part t vs off) (qPart P t cs off) := by
  intro hq
  unfold qPart at *
  split at hq <;> try exact hq.elim
  · rename_i k e1 e2
    simp only at hq
    refine ⟨.agg (vs.extract off (off + k)), by simp [part, run_isAgg' e1, run_sizeOf' e2], .agg _ _ (by simp; omega) fun i a v ha hv => ?_⟩
    rw [List.getElem?_take] at ha
    split at ha
    · rw [List.getElem?_drop] at ha
      refine hr _ a v ha ?_
      rw [Array.getElem?_extract] at hv
      split at hv <;> simp_all
    · cases ha
  · rename_i k e1 e2
    simp only at hq
    have h1 : vs[off]? = some (vs[off]'(by omega)) := Array.getElem?_eq_getElem (by omega)
    refine ⟨vs[off]'(by omega), by simp [part, run_isAgg' e1, h1], hr off _ _ ?_ h1⟩
    simp [List.getElem?_eq_getElem hq]

theorem qField_good (t : TypeId) (f : Nat) {a : AV} {v : Value} (h : RelV w a v) : Fair P w (Instr.field t v f) (qField P t a f) := by
  unfold qField
  split
  · rename_i cs ft off e
    obtain ⟨fs, fd, hu, hf, rfl, rfl⟩ := fTy_spec e
    cases h with | agg _ vs hl hr =>
    intro hq
    obtain ⟨v, h1, h2⟩ := qPart_good (P := P) fd.type hl hr fd.offset hq
    exact ⟨v, by simpa [Instr.field, run_underlying hu, hf, asAgg] using h1, h2⟩
  · exact good_no

theorem elSz_spec {t : TypeId} {k : Nat} (h : elSz P t = some k) : ∃ e, P.underlying t = some (.slice e) ∧ szOf P e = some k := by
  unfold elSz elT at h
  split at h
  · rename_i e hu; exact ⟨e, hu, by simpa using h⟩
  · cases h

theorem arrSz_spec {t : TypeId} {n k : Nat} (h : arrSz P t = some (n, k)) : ∃ e, P.underlying t = some (.array n e) ∧ szOf P e = some k := by
  unfold arrSz at h
  split at h
  · rename_i len e hu
    simp only [Option.map_eq_some_iff, Prod.mk.injEq] at h
    obtain ⟨s, h1, rfl, rfl⟩ := h
    exact ⟨e, hu, h1⟩
  · cases h

theorem qIndexAddr_good (t : TypeId) {a i : AV} {va vi : Value} (ha : RelV w a va) (hi : RelV w i vi) : Fair P w (Instr.indexAt t va vi) (qIndexAddr P t a i) := by
  intro hq
  unfold qIndexAddr at *
  split at hq <;> try exact hq.elim
  · rename_i x sz css d k j
    have := raw_inv hi; subst this
    obtain ⟨e, hu, hs⟩ := elSz_spec hq.1
    have h0 := hq.2.1
    have h1 := hq.2.2
    cases ha with
    | sl0 => simp at h1; omega
    | sl _ _ _ ad c vs hn hc hx hsz hb hH hcell hr =>
      have hln := getD_len hsz (show j.toNat < css.length by omega)
      have hd : css.getD j.toNat d = css.getD j.toNat [] := by simp [show j.toNat < css.length by omega]
      rw [hd]
      refine ⟨.pointer (some (ad.add (j.toNat * sz))), ?_, .ip _ _ (fun m => vs (j.toNat * sz + m)) (by rw [block_of_add]; exact hb) (by rw [block_of_add]; exact hH) (fun m hm => ?_) (fun m u hu => ?_)⟩
      · simp [Instr.indexAt, asIntOf, run_underlying hu, h0, h1, run_sizeOf' hs]
      · rw [add_of_add]; exact hcell _ m (by omega) (by omega)
      · exact hr _ m u (by omega) hu
  · rename_i d m sz n k j
    have := raw_inv hi; subst this
    obtain ⟨e, hu, hs⟩ := elSz_spec hq.1
    have h0 := hq.2.1
    have h1 := hq.2.2
    cases ha with
    | rs0 => simp at h1; omega
    | rs _ _ _ _ b t c hn hc hle hs0 =>
      refine ⟨.pointer (some ⟨b, j.toNat * sz, none⟩), ?_, .pt d m j.toNat 0 b t sz hn⟩
      simp [Instr.indexAt, asIntOf, run_underlying hu, h0, h1, run_sizeOf' hs, add_plain]
  · rename_i d m sz o n k j
    have := raw_inv hi; subst this
    obtain ⟨e, hu, hs⟩ := elSz_spec hq.1
    have h0 := hq.2.1
    have h1 := hq.2.2
    cases ha with
    | rv0 => simp at h1; omega
    | rv _ _ _ _ _ b t c hn hle =>
      refine ⟨.pointer (some ⟨b, (o + j.toNat) * sz, none⟩), ?_, .pt d m (o + j.toNat) 0 b t sz hn⟩
      simp [Instr.indexAt, asIntOf, run_underlying hu, h0, h1, run_sizeOf' hs, add_plain, Nat.add_mul]
  · rename_i d m k j kk i
    have := raw_inv hi; subst this
    unfold qArr at *
    split at hq
    · rename_i len s e
      obtain ⟨el, hu, hs⟩ := arrSz_spec e
      cases ha with
      | pt _ _ _ _ b t sz hn =>
        refine ⟨.pointer (some ⟨b, k * sz + (j + i.toNat * s), none⟩), ?_, .pt d m k _ b t sz hn⟩
        simp [Instr.indexAt, asIntOf, run_underlying hu, hq.1, hq.2, run_sizeOf' hs, add_plain, Instr.sureAddr, Nat.add_assoc]
    · exact hq.elim
  · rename_i cs kk i
    have := raw_inv hi; subst this
    unfold qArr at *
    split at hq
    · rename_i len s e
      obtain ⟨el, hu, hs⟩ := arrSz_spec e
      cases ha with
      | ip _ ad vs hb hH hcell hr =>
        refine ⟨.pointer (some (ad.add (i.toNat * s))), ?_, .ip _ _ (fun m => vs (i.toNat * s + m)) (by rw [block_of_add]; exact hb) (by rw [block_of_add]; exact hH) (fun m hm => ?_) (fun m u hu => ?_)⟩
        · simp [Instr.indexAt, asIntOf, run_underlying hu, hq.1, hq.2, run_sizeOf' hs, Instr.sureAddr]
        · rw [add_of_add]; exact hcell _ (by simp at hm; omega)
        · exact hr _ u (by rwa [List.getElem?_drop] at hu)
    · exact hq.elim

theorem qIndex_good (t : TypeId) {a i : AV} {va vi : Value} (ha : RelV w a va) (hi : RelV w i vi) : Fair P w (Instr.index t va vi) (qIndex P t a i) := by
  intro hq
  unfold qIndex at *
  split at hq <;> try exact hq.elim
  rename_i s k j
  have := raw_inv hi; have := raw_inv ha; subst_vars
  have ht := strT hq.1
  have h0 := hq.2.1
  have h1 : j.toNat < s.size := by have := hq.2.2; omega
  refine ⟨.int .u8 (byteAt s j), ?_, .raw _⟩
  have h2 : s[j.toNat]? = some s[j.toNat] := by simp [h1]
  have h3 : byteAt s j = (s[j.toNat].toNat : Int) := by
    have h4 : s.data[j.toNat]? = some s[j.toNat] := Array.getElem?_eq_getElem h1
    simp only [byteAt, h4, Option.getD_some]
  simp [Instr.index, asIntOf, run_underlying ht, h0, h2, h3]

theorem qExtract_good {a : AV} {v : Value} (h : RelV w a v) (i : Nat) : Fair P w (Instr.extract v i) (qExtract a i) := by
  intro hq
  unfold qExtract at *
  split at hq <;> try exact hq.elim
  rename_i cs
  cases h with | tup _ vs hl hr =>
  simp only at hq
  have h1 : vs[i]? = some (vs[i]'(by omega)) := Array.getElem?_eq_getElem (by omega)
  refine ⟨vs[i]'(by omega), by simp [Instr.extract, h1], hr i _ _ ?_ h1⟩
  simp [List.getElem?_eq_getElem hq]

theorem rawsOf_rel : ∀ {l : List AV} {vs us : List Value}, rawsOf l = some vs → RelL w l us → us = vs
  | [], vs, us, h, hr => by
    simp [rawsOf] at h; subst h
    have := hr.1; simp at this; simpa using this.symm
  | a :: l, vs, us, h, hr => by
    cases a <;> simp only [rawsOf] at h <;> try cases h
    rename_i v
    simp only [Option.map_eq_some_iff] at h
    obtain ⟨vs', h', rfl⟩ := h
    cases us with
    | nil => have := hr.1; simp at this
    | cons u us =>
      have h0 : u = v := raw_inv (hr.2 0 _ _ rfl rfl)
      have := rawsOf_rel h' (us := us) ⟨by have := hr.1; simpa using this, fun i a v ha hv => hr.2 (i + 1) a v (by simpa using ha) (by simpa using hv)⟩
      rw [h0, this]

theorem qFunc_good (fn : Fn) {a b : List AV} {va vb : List Value} (ha : RelL w a va) (hb : RelL w b vb) : Fair P w (Instr.makeFunc fn va.toArray vb.toArray) (qFunc fn a b) := by
  intro hq
  unfold qFunc at *
  split at hq <;> try exact hq.elim
  rename_i f
  have : va = [] := by have := ha.1; simpa using this.symm
  subst this
  exact ⟨.func (.func f) #[] vb.toArray, by simp [Instr.makeFunc], .clo f _ _ (by rw [hb.1]; simp) (fun i a v h1 h2 => hb.2 i a v h1 (by simpa using h2))⟩

theorem qIface_good (t : TypeId) {a : AV} {v : Value} (h : RelV w a v) : Fair P w (Instr.makeInterface t v) (qIface P t a) := by
  intro hq
  unfold qIface at *
  split at hq <;> try exact hq.elim
  rename_i u d e1 e2
  have := raw_inv h; subst this
  refine ⟨.iface t v, ?_, .raw _⟩
  simp only [Instr.makeInterface, Sem.run_bind, run_underlying e2, Result.andThen_ok]
  cases d <;> first | rfl | (simp [isIfaceT, e2] at e1)

theorem qLen_good (ty t : TypeId) (ts : List TypeId) {a : AV} {v : Value} (vs : List Value) (h : RelV w a v) : Fair P w (Builtin.len_ (t :: ts).toArray ty (v :: vs).toArray) (qLen P t a) := by
  intro hq
  unfold qLen at *
  split at hq <;> try exact hq.elim
  · obtain ⟨e, ht⟩ := sliceT hq
    cases h <;> exact ⟨_, by simp [Builtin.len_, run_underlying ht, goInt]; try rfl, .raw _⟩
  · obtain ⟨e, ht⟩ := sliceT hq
    cases h <;> exact ⟨_, by simp [Builtin.len_, run_underlying ht, goInt]; try rfl, .raw _⟩
  · obtain ⟨e, ht⟩ := sliceT hq
    cases h <;> exact ⟨_, by simp [Builtin.len_, run_underlying ht, goInt]; try rfl, .raw _⟩
  · obtain ⟨e, ht⟩ := sliceT hq
    have := raw_inv h; subst this
    exact ⟨_, by simp [Builtin.len_, run_underlying ht, goInt], .raw _⟩
  · have ht := strT hq
    have := raw_inv h; subst this
    exact ⟨_, by simp [Builtin.len_, run_underlying ht, goInt], .raw _⟩
theorem qCap_good (ty t : TypeId) (ts : List TypeId) {a : AV} {v : Value} (vs : List Value) (h : RelV w a v) : Fair P w (Builtin.cap_ (t :: ts).toArray ty (v :: vs).toArray) (qCap P t a) := by
  intro hq
  unfold qCap at *
  split at hq <;> try exact hq.elim
  · obtain ⟨e, ht⟩ := sliceT hq
    cases h with
    | sl0 _ _ _ c hx => have := hx rfl; subst this; exact ⟨_, by simp [Builtin.cap_, run_underlying ht, goInt], .raw _⟩
    | sl _ _ _ _ c _ _ _ hx => have := (hx rfl).1; subst this; exact ⟨_, by simp [Builtin.cap_, run_underlying ht, goInt], .raw _⟩
  · obtain ⟨e, ht⟩ := sliceT hq
    have := raw_inv h; subst this
    exact ⟨_, by simp [Builtin.cap_, run_underlying ht, goInt], .raw _⟩
end
end Go.Gd

namespace Go.Gd
open Go

section
variable {P : Program} {w : NW} {H : Hp}

theorem optInt_rel {a : Option AV} {v : Option Value} {i : Option Int} (ha : optInt a = some i) (hr : ∀ x y, a = some x → v = some y → RelV w x y) (hs : a.isSome = v.isSome) : (i = none ∧ v = none) ∨ ∃ k n, i = some n ∧ v = some (.int k n) := by
  cases a with
  | none =>
    simp [optInt] at ha
    cases v with
    | none => exact .inl ⟨ha.symm, rfl⟩
    | some _ => simp at hs
  | some x =>
    cases v with
    | none => simp at hs
    | some y =>
      unfold optInt at ha
      split at ha <;> try cases ha
      · rename_i h; cases h
      · rename_i k n h
        cases h
        have := raw_inv (hr _ _ rfl rfl)
        subst this
        exact .inr ⟨k, n, rfl, rfl⟩

theorem bounds_run {isSlice : Bool} {len cap : Nat} {vlo vhi : Option Value} {lo hi : Option Int} (hlo : (lo = none ∧ vlo = none) ∨ ∃ k n, lo = some n ∧ vlo = some (.int k n)) (hhi : (hi = none ∧ vhi = none) ∨ ∃ k n, hi = some n ∧ vhi = some (.int k n))
    (h0 : 0 ≤ lo.getD 0) (h1 : lo.getD 0 ≤ hi.getD len) (h2 : hi.getD len ≤ cap) : (Instr.sliceBounds isSlice len cap vlo vhi none).run P w = .ok ((lo.getD 0).toNat, (hi.getD len).toNat, cap) w := by
  rcases hlo with ⟨rfl, rfl⟩ | ⟨k, n, rfl, rfl⟩ <;> rcases hhi with ⟨rfl, rfl⟩ | ⟨k', m, rfl, rfl⟩ <;> simp only [Option.getD_some, Option.getD_none] at *
  · simp [Instr.sliceBounds]
  · simp [Instr.sliceBounds, run_sliceBound w _ _ _ _ (show 0 ≤ m by omega) h2]
  · simp [Instr.sliceBounds, run_sliceBound w _ _ _ _ h0 h1]
  · simp [Instr.sliceBounds, run_sliceBound w _ _ _ _ (show 0 ≤ m by omega) h2, run_sliceBound w _ _ _ _ h0 (show n ≤ ((m.toNat : Nat) : Int) by omega)]

theorem bounds_run3 {len cap : Nat} {vlo : Option Value} {lo : Option Int} {k k2 : IntKind} {m q : Int} (hlo : (lo = none ∧ vlo = none) ∨ ∃ k n, lo = some n ∧ vlo = some (.int k n))
    (h0 : 0 ≤ lo.getD 0) (h1 : lo.getD 0 ≤ q) (h2 : q ≤ m) (h3 : m ≤ cap) : (Instr.sliceBounds true len cap vlo (some (.int k2 q)) (some (.int k m))).run P w.toWorld = .ok ((lo.getD 0).toNat, q.toNat, m.toNat) w.toWorld := by
  rcases hlo with ⟨rfl, rfl⟩ | ⟨k1, n, rfl, rfl⟩ <;> simp only [Option.getD_some, Option.getD_none] at *
  · simp [Instr.sliceBounds, run_sliceBound w.toWorld _ _ _ _ (show 0 ≤ m by omega) h3, run_sliceBound w.toWorld _ _ _ _ (show 0 ≤ q by omega) (show q ≤ ((m.toNat : Nat) : Int) by omega)]
  · simp [Instr.sliceBounds, run_sliceBound w.toWorld _ _ _ _ (show 0 ≤ m by omega) h3, run_sliceBound w.toWorld _ _ _ _ (show 0 ≤ q by omega) (show q ≤ ((m.toNat : Nat) : Int) by omega), run_sliceBound w.toWorld _ _ _ _ h0 (show n ≤ ((q.toNat : Nat) : Int) by omega)]

theorem slice_run {t e : TypeId} {sz : Nat} (hu : P.underlying t = some (.slice e)) (hs : szOf P e = some sz) {A : Option Addr} {n c lo hi mx : Nat} {vlo vhi vmx : Option Value} (hb : (Instr.sliceBounds true n c vlo vhi vmx).run P w.toWorld = .ok (lo, hi, mx) w.toWorld) :
    ∃ A', (Instr.sliceAt t (.slice A n c) vlo vhi vmx).run P w.toWorld = .ok (.slice A' (hi - lo) (mx - lo)) w.toWorld ∧ ((A = none ∧ A' = none) ∨ ∃ ad, A = some ad ∧ A' = some (if mx = lo then ad else ad.add (lo * sz))) := by
  cases A with
  | none => exact ⟨none, by simp [Instr.sliceAt, run_underlying hu, Instr.slice, hb, run_sizeOf' hs], .inl ⟨rfl, rfl⟩⟩
  | some ad => exact ⟨some (if mx = lo then ad else ad.add (lo * sz)), by simp only [Instr.sliceAt, run_underlying hu, Instr.slice, hb, run_sizeOf' hs, Sem.run_bind, Result.andThen_ok, Sem.run_pure, Option.map_some]; split <;> rfl, .inr ⟨ad, rfl, rfl⟩⟩

theorem optInt_rel2 {a : Option AV} {v : Option Value} {i : Int} (ha : optInt a = some (some i)) (hr : ∀ x y, a = some x → v = some y → RelV w x y) (hs : a.isSome = v.isSome) : ∃ k, v = some (.int k i) := by
  rcases optInt_rel ha hr hs with ⟨h, _⟩ | ⟨k, n, h, rfl⟩
  · cases h
  · cases h; exact ⟨k, rfl⟩
theorem optInt_none {a : Option AV} {v : Option Value} (ha : optInt a = some none) (hr : ∀ x y, a = some x → v = some y → RelV w x y) (hs : a.isSome = v.isSome) : v = none := by
  rcases optInt_rel ha hr hs with ⟨_, h⟩ | ⟨k, n, h, rfl⟩
  · exact h
  · cases h

theorem qSlice_good (t : TypeId) {a : AV} {lo hi mx : Option AV} {va : Value} {vlo vhi vmx : Option Value} (ha : RelV w a va) (hlo : ∀ x y, lo = some x → vlo = some y → RelV w x y) (slo : lo.isSome = vlo.isSome)
    (hhi : ∀ x y, hi = some x → vhi = some y → RelV w x y) (shi : hi.isSome = vhi.isSome) (hmx : ∀ x y, mx = some x → vmx = some y → RelV w x y) (smx : mx.isSome = vmx.isSome) : Fair P w (Instr.sliceAt t va vlo vhi vmx) (qSlice P t a lo hi mx) := by
  intro hq
  unfold qSlice at *
  split at hq <;> try exact hq.elim
  · rename_i s l h e1 e2 e3
    obtain rfl := optInt_none e3 hmx smx
    have := raw_inv ha; subst this
    have ht := strT hq.1
    obtain ⟨h0, h1, h2⟩ := hq.2
    have hb := bounds_run (P := P) (w := w) (isSlice := false) (optInt_rel e1 hlo slo) (optInt_rel e2 hhi shi) h0 h1 h2
    exact ⟨_, by simp [Instr.sliceAt, run_underlying ht, Instr.slice, hb], .raw _⟩
  · rename_i x sz css d l h e1 e2 e3
    obtain rfl := optInt_none e3 hmx smx
    obtain ⟨e, hu, hs⟩ := elSz_spec hq.1
    obtain ⟨h0, h1, h2⟩ := hq.2
    have key : ∀ n c : Nat, n = css.length → n ≤ c → (Instr.sliceBounds true n c vlo vhi none).run P w.toWorld = .ok ((l.getD 0).toNat, (h.getD css.length).toNat, c) w.toWorld := fun n c hn hc => by
      subst hn
      exact bounds_run (P := P) (w := w) (isSlice := true) (optInt_rel e1 hlo slo) (optInt_rel e2 hhi shi) h0 h1 (by omega)
    generalize hL : l.getD 0 = L at *
    generalize hh : h.getD (css.length : Int) = Hh at *
    obtain ⟨Ln, rfl⟩ := Int.eq_ofNat_of_zero_le h0
    obtain ⟨Hn, rfl⟩ := Int.eq_ofNat_of_zero_le (show (0 : Int) ≤ Hh by omega)
    simp only [Int.toNat_natCast] at key ⊢
    have hlen : ((css.drop Ln).take (Hn - Ln)).length = Hn - Ln := by simp; omega
    cases ha with
    | sl0 _ _ A c hx =>
      obtain ⟨A', hrun, _⟩ := slice_run hu hs (A := A) (key 0 c rfl (Nat.zero_le _))
      obtain rfl : Hn = 0 := by simp at h2; omega
      refine ⟨_, hrun, ?_⟩
      simp only [Nat.zero_sub, List.take_zero]
      exact .sl0 _ _ _ _ (fun h => by cases h)
    | sl _ _ _ ad c vs hn hc hx hsz hb' hH hcell hr =>
      obtain ⟨A', hrun, hA⟩ := slice_run hu hs (A := some ad) (key _ c rfl hc)
      refine ⟨_, hrun, ?_⟩
      by_cases hz : Hn - Ln = 0
      · rw [hz, List.take_zero]; exact .sl0 _ _ _ _ (fun h => by cases h)
      · rcases hA with ⟨h, _⟩ | ⟨ad', h, rfl⟩
        · cases h
        cases h
        rw [if_neg (by omega)]
        have hg : ∀ i, i < Hn - Ln → ((css.drop Ln).take (Hn - Ln)).getD i [] = css.getD (Ln + i) [] := fun i hi => by simp [List.getElem?_take, hi]
        have := RelV.sl (w := w) (d := d) false sz ((css.drop Ln).take (Hn - Ln)) (ad.add (Ln * sz)) (c - Ln) (fun j => vs (Ln * sz + j)) (by omega) (by omega) (fun h => by cases h) (fun cs hcs => hsz _ (List.mem_of_mem_drop (List.mem_of_mem_take hcs))) (by rw [block_of_add]; exact hb') (by rw [block_of_add]; exact hH)
          (fun i j hi hj => by
            rw [add_of_add, show Ln * sz + (i * sz + j) = (Ln + i) * sz + j by rw [Nat.add_mul]; omega]
            exact hcell _ j (by omega) hj) (fun i j u hi hu => by
            rw [hg i (by omega)] at hu
            rw [show Ln * sz + (i * sz + j) = (Ln + i) * sz + j by rw [Nat.add_mul]; omega]
            exact hr _ j u (by omega) hu)
        rw [hlen] at this
        exact this
  · rename_i d m sz n h e1 e2 e3
    obtain rfl := optInt_none e3 hmx smx
    obtain rfl := optInt_none e1 hlo slo
    obtain ⟨e, hu, hs⟩ := elSz_spec hq.1
    obtain ⟨h1, h2⟩ := hq.2
    have key : ∀ c : Nat, n ≤ c → (Instr.sliceBounds true n c none vhi none).run P w.toWorld = .ok (0, (h.getD n).toNat, c) w.toWorld := fun c hc => by
      have := bounds_run (P := P) (w := w) (isSlice := true) (len := n) (cap := c) (lo := none) (vlo := none) (.inl ⟨rfl, rfl⟩) (optInt_rel e2 hhi shi) (by simp) (by simpa using h1) (by omega)
      simpa using this
    cases ha with
    | rs0 _ _ _ A hn =>
      obtain ⟨A', hrun, _⟩ := slice_run hu hs (A := A) (key 0 (Nat.zero_le _))
      have h0 : (h.getD 0).toNat = 0 := by simp at h2; omega
      refine ⟨_, hrun, ?_⟩
      simp only [Nat.sub_zero, Int.ofNat_zero]
      rw [h0]
      exact .rs0 d m sz A' hn
    | rs _ _ _ _ b t c hn hc hle hs0 =>
      obtain ⟨A', hrun, hA⟩ := slice_run hu hs (A := some ⟨b, 0, none⟩) (key c hle)
      refine ⟨_, hrun, ?_⟩
      rcases hA with ⟨h', _⟩ | ⟨ad', h', rfl⟩
      · cases h'
      cases h'
      have : (if c = 0 then (⟨b, 0, none⟩ : Addr) else (⟨b, 0, none⟩ : Addr).add (0 * sz)) = ⟨b, 0, none⟩ := by rw [Nat.zero_mul, add_zero_]; simp
      rw [this]
      simp only [Nat.sub_zero]
      exact .rs d m sz _ b t c hn hc (by omega) hs0
  · rename_i d m sz n l h e1 e2 e3
    obtain rfl := optInt_none e3 hmx smx
    obtain ⟨e, hu, hs⟩ := elSz_spec hq.1
    obtain ⟨h0, h1, h2⟩ := hq.2
    have key : ∀ c : Nat, n ≤ c → (Instr.sliceBounds true n c vlo vhi none).run P w.toWorld = .ok (l.toNat, (h.getD n).toNat, c) w.toWorld := fun c hc =>
      bounds_run (P := P) (w := w) (isSlice := true) (len := n) (cap := c) (lo := some l) (optInt_rel e1 hlo slo) (optInt_rel e2 hhi shi) h0 h1 (by omega)
    cases ha with
    | rs0 _ _ _ A hn =>
      obtain ⟨A', hrun, _⟩ := slice_run hu hs (A := A) (key 0 (Nat.zero_le _))
      refine ⟨_, hrun, ?_⟩
      have : (h.getD (0 : Nat)).toNat - l.toNat = 0 := by simp at h1 h2 ⊢; omega
      rw [this]
      exact .rv0 d m sz _ _ _
    | rs _ _ _ _ b t c hn hc hle hs0 =>
      obtain ⟨A', hrun, hA⟩ := slice_run hu hs (A := some ⟨b, 0, none⟩) (key c hle)
      refine ⟨_, hrun, ?_⟩
      by_cases hz : (h.getD n).toNat - l.toNat = 0
      · rw [hz]; exact .rv0 d m sz _ _ _
      · rcases hA with ⟨h', _⟩ | ⟨ad', h', rfl⟩
        · cases h'
        cases h'
        rw [if_neg (by omega), add_plain, Nat.zero_add]
        exact .rv d m sz _ _ b t _ hn (by omega)
  · rename_i d m sz o n l h e1 e2 e3
    obtain rfl := optInt_none e3 hmx smx
    obtain ⟨e, hu, hs⟩ := elSz_spec hq.1
    obtain ⟨h0, h1, h2⟩ := hq.2
    have key : ∀ c : Nat, n ≤ c → (Instr.sliceBounds true n c vlo vhi none).run P w.toWorld = .ok ((l.getD 0).toNat, (h.getD n).toNat, c) w.toWorld := fun c hc =>
      bounds_run (P := P) (w := w) (isSlice := true) (len := n) (cap := c) (optInt_rel e1 hlo slo) (optInt_rel e2 hhi shi) h0 h1 (by omega)
    cases ha with
    | rv0 _ _ _ _ c A =>
      obtain ⟨A', hrun, _⟩ := slice_run hu hs (A := A) (key c (Nat.zero_le _))
      refine ⟨_, hrun, ?_⟩
      have : (h.getD (0 : Nat)).toNat - (l.getD 0).toNat = 0 := by simp at h1 h2 ⊢; omega
      rw [this]
      exact .rv0 d m sz _ _ _
    | rv _ _ _ _ _ b t c hn hle =>
      obtain ⟨A', hrun, hA⟩ := slice_run hu hs (A := some ⟨b, o * sz, none⟩) (key c hle)
      refine ⟨_, hrun, ?_⟩
      by_cases hz : (h.getD n).toNat - (l.getD 0).toNat = 0
      · rw [hz]; exact .rv0 d m sz _ _ _
      · rcases hA with ⟨h', _⟩ | ⟨ad', h', rfl⟩
        · cases h'
        cases h'
        rw [if_neg (by omega), add_plain, ← Nat.add_mul]
        exact .rv d m sz _ _ b t _ hn (by omega)
  · rename_i d m sz n l h x e1 e2 e3
    obtain ⟨kx, rfl⟩ := optInt_rel2 e3 hmx smx
    obtain ⟨kh, rfl⟩ := optInt_rel2 e2 hhi shi
    obtain ⟨e, hu, hs⟩ := elSz_spec hq.1
    obtain ⟨h0, h1, h2, h3⟩ := hq.2
    have key : ∀ c : Nat, n ≤ c → (Instr.sliceBounds true n c vlo (some (.int kh h)) (some (.int kx x))).run P w.toWorld = .ok ((l.getD 0).toNat, h.toNat, x.toNat) w.toWorld := fun c hc =>
      bounds_run3 (P := P) (w := w) (len := n) (cap := c) (optInt_rel e1 hlo slo) h0 h1 h2 (by omega)
    cases ha with
    | rs0 _ _ _ A hn =>
      obtain ⟨A', hrun, _⟩ := slice_run hu hs (A := A) (key 0 (Nat.zero_le _))
      refine ⟨_, hrun, ?_⟩
      have : h.toNat - (l.getD 0).toNat = 0 := by simp at h1 h2 h3 ⊢; omega
      rw [this]
      exact .rv0 d m sz _ _ _
    | rs _ _ _ _ b t c hn hc hle hs0 =>
      obtain ⟨A', hrun, hA⟩ := slice_run hu hs (A := some ⟨b, 0, none⟩) (key c hle)
      refine ⟨_, hrun, ?_⟩
      by_cases hz : h.toNat - (l.getD 0).toNat = 0
      · rw [hz]; exact .rv0 d m sz _ _ _
      · rcases hA with ⟨h', _⟩ | ⟨ad', h', rfl⟩
        · cases h'
        cases h'
        rw [if_neg (by omega), add_plain, Nat.zero_add]
        exact .rv d m sz _ _ b t _ hn (by omega)
  · rename_i l h e1 e2 e3
    obtain rfl := optInt_none e3 hmx smx
    have := raw_inv ha; subst this
    obtain ⟨_, hsz, h0, h1⟩ := hq
    obtain ⟨sz, hsz⟩ := Option.isSome_iff_exists.1 hsz
    obtain ⟨e, hu, hs⟩ := elSz_spec hsz
    have hb := bounds_run (P := P) (w := w) (isSlice := true) (len := 0) (cap := 0) (optInt_rel e1 hlo slo) (optInt_rel e2 hhi shi) (by omega) (by simp; omega) (by simp; omega)
    simp only [h0, Int.toNat_zero, h1, Int.ofNat_zero] at hb
    exact ⟨_, by simp [Instr.sliceAt, run_underlying hu, Instr.slice, hb, run_sizeOf' hs], .raw _⟩

theorem qConv_good (s d : TypeId) {a : AV} {v : Value} (h : RelV w a v) : Fair P w (convert s d v) (qConv P s d a) := by
  intro hq
  unfold qConv at *
  split at hq <;> try exact hq.elim
  · rename_i k' n k e
    have := raw_inv h; subst this
    have hd : P.underlying d = some (.int k) := by unfold isIntT at e; split at e <;> simp_all
    obtain ⟨ds, hs⟩ := Option.isSome_iff_exists.1 hq
    refine ⟨.int k (k.wrap n), ?_, .raw _⟩
    cases ds <;> simp [convert, run_underlying hs, run_underlying hd, Conv.intToInt]
  · rename_i s' e
    have := raw_inv h; subst this
    have hd := strT hq.2
    obtain ⟨ds, hs⟩ := Option.isSome_iff_exists.1 hq.1
    refine ⟨.string s', ?_, .raw _⟩
    cases ds <;> simp [convert, run_underlying hs, run_underlying hd]

theorem qMaxMin_good (mx : Bool) (ts : Array TypeId) (ty : TypeId) {l : List AV} {vs : List Value} (h : RelL w l vs) : Fair P w (if mx then Builtin.max_ ts ty vs.toArray else Builtin.min_ ts ty vs.toArray) (qMaxMin mx l) := by
  intro hq
  unfold qMaxMin at *
  split at hq <;> try exact hq.elim
  rename_i k a k' b
  obtain ⟨hl, hr⟩ := h
  match vs, hl with
  | [x, y], _ =>
    obtain rfl : k = k' := hq
    obtain rfl := raw_inv (hr 0 _ _ rfl rfl); obtain rfl := raw_inv (hr 1 _ _ rfl rfl)
    cases mx <;> exact ⟨_, by simp [Builtin.max_, Builtin.min_, Builtin.max2, Builtin.min2]; rfl, by simpa using RelV.raw _⟩

theorem fill_rel {pl : Nat → Option (Nat × Nat)} : ∀ {parts : List (Nat × AV)} {vparts : List (Nat × Value)} {cells : List AV} {cur : Array Value} {out : List AV},
    fillA pl cells parts = some out → parts.map (·.1) = vparts.map (·.1) → (∀ (i : Nat) a v, parts[i]? = some a → vparts[i]? = some v → RelL w a.2.cells v.2.cells.toList) → RelL w cells cur.toList →
    ∃ vs, Instr.fill pl cur vparts = some vs ∧ RelL w out vs.toList
  | [], [], cells, cur, out, h, _, _, hc => by
    simp only [fillA, Option.some.injEq] at h
    subst h
    exact ⟨cur, rfl, hc⟩
  | [], _ :: _, _, _, _, _, he, _, _ => by simp at he
  | _ :: _, [], _, _, _, _, he, _, _ => by simp at he
  | (i, a) :: parts, (i', v) :: vparts, cells, cur, out, h, he, hr, hc => by
    simp only [List.map_cons, List.cons.injEq] at he
    obtain ⟨rfl, he⟩ := he
    simp only [fillA] at h
    split at h
    · rename_i off k hp
      split at h
      · rename_i hk
        have hv := hr 0 _ _ rfl rfl
        simp only at hv
        have hlen : v.cells.size = k := by have := hv.1; simp at this; omega
        have hcur : cells.length = cur.size := by simpa using hc.1
        have hset : ∀ (l : List Value) (o : Nat) (c : Array Value), (l.toArray.zipIdx.foldl (fun cs (x, j) => cs.setIfInBounds (o + j) x) c) = (c.toList.take o ++ l ++ c.toList.drop (o + l.length)).toArray ∨ c.size < o + l.length := by
          intro l o c
          by_cases hb : c.size < o + l.length
          · exact .inr hb
          · refine .inl ?_
            have gen : ∀ (l : List Value) (s : Nat) (c : Array Value), o + s + l.length ≤ c.size → ((l.zipIdx s).foldl (fun (cs : Array Value) (p : Value × Nat) => cs.setIfInBounds (o + p.2) p.1) c) = (c.toList.take (o + s) ++ l ++ c.toList.drop (o + s + l.length)).toArray := by
              intro l
              induction l with
              | nil => intro s c _; simp
              | cons x l ih =>
                intro s c hb
                simp only [List.zipIdx_cons, List.foldl_cons]
                rw [ih (s + 1) _ (by simp at hb ⊢; omega)]
                apply Array.ext'
                simp only [Array.toList_setIfInBounds]
                apply List.ext_getElem?
                intro m
                simp only [List.length_cons] at hb
                rcases Nat.lt_or_ge m (o + s) with h1 | h1
                · rw [List.append_assoc, List.getElem?_append_left (by simp; omega), List.append_assoc, List.getElem?_append_left (by simp; omega)]
                  simp only [List.getElem?_take, List.getElem?_set]
                  rw [if_pos (by omega), if_neg (by omega), if_pos h1]
                · rcases Nat.lt_or_ge m (o + s + 1) with h2 | h2
                  · obtain rfl : m = o + s := by omega
                    rw [List.append_assoc, List.getElem?_append_left (by simp; omega), List.append_assoc, List.getElem?_append_right (by simp; omega)]
                    simp only [List.getElem?_take, List.getElem?_set, List.length_take, Array.length_toList]
                    rw [if_pos (by omega)]
                    simp only [Nat.add_assoc, if_true]
                    rw [if_pos (by omega), show o + s - min (o + s) c.size = 0 by omega]
                    rfl
                  · rw [List.append_assoc, List.append_assoc, List.cons_append, List.getElem?_append_right (l₁ := List.take (o + (s + 1)) _) (by simp; omega), List.getElem?_append_right (l₁ := List.take (o + s) _) (by simp; omega)]
                    simp only [List.length_take, List.length_set, Array.length_toList]
                    rw [show m - min (o + s) c.size = (m - min (o + (s + 1)) c.size) + 1 by omega, List.getElem?_cons_succ]
                    rcases Nat.lt_or_ge (m - min (o + (s + 1)) c.size) l.length with h3 | h3
                    · rw [List.getElem?_append_left h3, List.getElem?_append_left h3]
                    · rw [List.getElem?_append_right h3, List.getElem?_append_right h3]
                      simp only [List.getElem?_drop, List.getElem?_set, List.length_cons]
                      rw [if_neg (by omega)]
                      congr 1
                      omega
            have := gen l 0 c (by omega)
            simp only [Nat.add_zero] at this
            rw [← this, ← Array.foldl_toList]
            simp
        have hfit : ¬ (cur.size < off + v.cells.toList.length) := by simp; omega
        have hs := (hset v.cells.toList off cur).resolve_right hfit
        rw [Array.toArray_toList] at hs
        obtain ⟨vs, h1, h2⟩ := fill_rel (cur := (cur.toList.take off ++ v.cells.toList ++ cur.toList.drop (off + v.cells.toList.length)).toArray) h he (fun i a v ha hv => hr (i + 1) a v (by simpa using ha) (by simpa using hv)) (by
          refine ⟨by simp [splice]; omega, fun m x y hx hy => ?_⟩
          simp only [splice] at hx
          rcases Nat.lt_or_ge m off with g1 | g1
          · rw [List.append_assoc, List.getElem?_append_left (by simp; omega), List.getElem?_take, if_pos g1] at hx hy
            exact hc.2 m x y hx hy
          · rcases Nat.lt_or_ge m (off + a.cells.length) with g2 | g2
            · rw [List.append_assoc, List.getElem?_append_right (by simp; omega), List.getElem?_append_left (by simp; omega)] at hx hy
              simp only [List.length_take, Array.length_toList] at hx hy
              rw [show m - min off cells.length = m - off by omega] at hx
              rw [show m - min off cur.size = m - off by omega] at hy
              exact hv.2 _ x y hx hy
            · rw [List.getElem?_append_right (by simp; omega)] at hx hy
              simp only [List.length_append, List.length_take, Array.length_toList, List.getElem?_drop] at hx hy
              rw [show off + a.cells.length + (m - (min off cells.length + a.cells.length)) = m by omega] at hx
              rw [show off + v.cells.size + (m - (min off cur.size + v.cells.size)) = m by omega] at hy
              exact hc.2 m x y hx hy)
        refine ⟨vs, ?_, h2⟩
        simp only [Instr.fill, hp]
        rw [if_neg (by simp; omega), hs]
        exact h1
      · cases h
    · cases h

theorem places_run {t : TypeId} {pl : List (Nat × Nat)} (h : places P t = some pl) : ∃ fs : Array Field, P.underlying t = some (.struct fs) ∧ (fs.mapM (m := Sem) fun f => do pure (f.offset, ← sizeOf f.type)).run P w.toWorld = .ok pl.toArray w.toWorld := by
  unfold places at h
  split at h
  · rename_i fs hu
    refine ⟨fs, hu, ?_⟩
    rw [Array.mapM_eq_mapM_toList]
    have gen : ∀ (l : List Field) (pl : List (Nat × Nat)), l.mapM (fun f => (szOf P f.type).map fun k => (f.offset, k)) = some pl → (l.mapM (m := Sem) fun f => do pure (f.offset, ← sizeOf f.type)).run P w.toWorld = .ok pl w.toWorld := by
      intro l
      induction l with
      | nil => intro pl h; simp at h; subst h; simp
      | cons f l ih =>
        intro pl h
        rw [List.mapM_cons] at h
        simp only [Option.bind_eq_bind, Option.bind_eq_some_iff, Option.map_eq_some_iff, Option.pure_def, Option.some.injEq] at h
        obtain ⟨p, ⟨k, hk, rfl⟩, rest, hrest, rfl⟩ := h
        rw [List.mapM_cons]
        simp only [Sem.run_bind, run_sizeOf' hk, Result.andThen_ok, Sem.run_pure, ih rest hrest]
    simp only [Sem.run_map, gen fs.toList pl h, Result.andThen_ok]
  · cases h

theorem qBuild_good (t : TypeId) {parts : List (Nat × AV)} {vparts : Array (Nat × Value)} (h1 : parts.map (·.1) = vparts.toList.map (·.1)) (h2 : ∀ (i : Nat) a v, parts[i]? = some a → vparts.toList[i]? = some v → RelV w a.2 v.2) : Fair P w (Instr.build t vparts) (qBuild P t parts) := by
  intro hq
  unfold qBuild at *
  split at hq <;> try exact hq.elim
  rename_i zs pl e1 e2
  split at hq <;> try exact hq.elim
  rename_i out hf
  obtain ⟨z, hz, rfl⟩ := zeroL_ones (w := w) e1
  obtain ⟨fs, hu, hp⟩ := places_run (w := w) e2
  simp only [ones, List.all_eq_true] at hq
  have hone : ∀ (i : Nat) a, parts[i]? = some a → ones a.2.cells = true := fun i a ha => by
    simp only [ones, List.all_eq_true]
    intro x hx
    exact hq x (List.mem_flatten.2 ⟨_, List.mem_map.2 ⟨a, List.mem_of_getElem? ha, rfl⟩, hx⟩)
  obtain ⟨vs, g1, g2⟩ := fill_rel (w := w) (cur := z.cells) hf h1 (fun i a v ha hv => (h2 i a v ha hv).cells_rel (hone i a ha))
    ⟨by simp, fun i a v ha hv => by
      simp only [List.getElem?_map, Option.map_eq_some_iff] at ha
      obtain ⟨x, hx, rfl⟩ := ha
      rw [hx] at hv; cases hv; exact .raw _⟩
  refine ⟨.agg vs, ?_, .agg _ _ (by have := g2.1; simpa using this) fun i a v ha hv => g2.2 i a v ha (by simpa using hv)⟩
  have e : (fun i : Nat => pl.toArray[i]?) = (fun i : Nat => pl[i]?) := by funext i; simp
  simp only [Instr.build, Sem.run_bind, hz, Result.andThen_ok, run_underlying hu, hp, e, g1, Sem.run_pure]
end
end Go.Gd

namespace Go.Gd
open Go

section
variable {P : Program} {w : NW} {H : Hp} {ρ : Operand → Value} {ev : Operand → AV}

theorem relL_map (hr : ∀ x, RelV w (ev x) (ρ x)) (l : List Operand) : RelL w (l.map ev) (l.map ρ) :=
  ⟨by simp, fun i a v ha hv => by
    simp only [List.getElem?_map, Option.map_eq_some_iff] at ha hv
    obtain ⟨x, hx, rfl⟩ := ha
    obtain ⟨y, hy, rfl⟩ := hv
    rw [hx] at hy; cases hy; exact hr x⟩
theorem opt_rel (hr : ∀ x, RelV w (ev x) (ρ x)) (o : Option Operand) : ∀ x y, o.map ev = some x → o.map ρ = some y → RelV w x y := by
  intro x y hx hy
  cases o with
  | none => cases hx
  | some z => cases hx; cases hy; exact hr z

theorem run_vq {s : Sem Value} {q : PA} (hq : q.1) (h : Fair P w s q) : ∃ v, (do pure (Next.value (← s)) : Sem Next).run P w.toWorld = .ok (.value v) w.toWorld ∧ RelV w q.2 v := by
  obtain ⟨v, h1, h2⟩ := h hq
  exact ⟨v, by simp [h1], h2⟩

theorem pick_sound {c a b : Operand} {x y z : AV} {dst : Option Tmp} {ty : TypeId} {pos : String} {after : Array Edge} {guard : Option (Nat × Bool)} (hc : RelV w x (ρ c)) (ha : RelV w y (ρ a)) (hb : RelV w z (ρ b)) (hq : (qPick x y z).1) :
    ∃ v, (execOp ρ ⟨dst, .pick c a b, ty, pos, after, guard⟩).run P w.toWorld = .ok (.value v) w.toWorld ∧ RelV w (qPick x y z).2 v := by
  obtain ⟨v, h1, h2⟩ := qPick_good (P := P) hc ha hb hq
  refine ⟨v, ?_, h2⟩
  simp only [execOp, Sem.run_bind, Sem.run_pure] at h1 ⊢
  cases hb : (asBool (ρ c)).run P w with
  | ok x w' => rw [hb] at h1; simp only [Result.andThen_ok, Result.ok.injEq] at h1 ⊢; exact ⟨by rw [h1.1], h1.2⟩
  | halt e w' => rw [hb] at h1; simp at h1
theorem vq_sound (o : Oper) (hw : RelW w H) (hr : ∀ x, RelV w (ev x) (ρ x)) (hq : (vq P ev H o.op).1) : ∃ v, (execOp ρ o).run P w.toWorld = .ok (.value v) w.toWorld ∧ RelV w (vq P ev H o.op).2 v := by
  obtain ⟨dst, op, ty, pos, after, guard⟩ := o
  cases op
  case move x => exact ⟨_, rfl, hr x⟩
  case assign x => exact ⟨_, rfl, hr x⟩
  case pick c a b =>
    obtain ⟨v, h1, h2⟩ := qPick_good (P := P) (hr c) (hr a) (hr b) hq
    refine ⟨v, ?_, h2⟩
    simp only [execOp, Sem.run_bind, Sem.run_pure] at h1 ⊢
    cases hb : (asBool (ρ c)).run P w with
    | ok x w' => rw [hb] at h1; simp only [Result.andThen_ok, Result.ok.injEq] at h1 ⊢; exact ⟨by rw [h1.1], h1.2⟩
    | halt e w' => rw [hb] at h1; simp at h1
  case nilCheck x => exact qNil_good x rfl (hr x) _ rfl hq
  case binOp op t x y t' => exact run_vq hq (qBin_good op t x y (hr x) (hr y))
  case unOp op t x => exact run_vq hq (qUn_good op (hr x))
  case load t a => exact run_vq hq (qLoad_good t (hr a) hw)
  case fieldAddr t a f => exact run_vq hq (qFieldAddr_good t f (hr a))
  case field t a f => exact run_vq hq (qField_good t f (hr a))
  case indexAddr t a i => exact run_vq hq (qIndexAddr_good t (hr a) (hr i))
  case index t a i => exact run_vq hq (qIndex_good t (hr a) (hr i))
  case extract a i => exact run_vq hq (qExtract_good (hr a) i)
  case slice t a lo hi mx => exact run_vq hq (qSlice_good t (hr a) (opt_rel hr lo) (by cases lo <;> rfl) (opt_rel hr hi) (by cases hi <;> rfl) (opt_rel hr mx) (by cases mx <;> rfl))
  case makeFunc fn first captured =>
    have := qFunc_good (P := P) fn (relL_map hr first.toList) (relL_map hr captured.toList)
    have e1 : (first.toList.map ρ).toArray = first.map ρ := by rw [← Array.toList_map, Array.toArray_toList]
    have e2 : (captured.toList.map ρ).toArray = captured.map ρ := by rw [← Array.toList_map, Array.toArray_toList]
    rw [e1, e2] at this
    exact run_vq hq this
  case makeInterface t x => exact run_vq hq (qIface_good t (hr x))
  case convert s d x => exact run_vq hq (qConv_good s d (hr x))
  case build t parts =>
    refine run_vq hq (qBuild_good t (by simp) fun i a v ha hv => ?_)
    simp only [List.getElem?_map, Option.map_eq_some_iff, Array.toList_map, Array.getElem?_toList] at ha hv
    obtain ⟨x, hx, rfl⟩ := ha
    obtain ⟨y, hy, rfl⟩ := hv
    rw [hx] at hy; cases hy; exact hr x.2
  case call c =>
    obtain ⟨callee, args, argTypes⟩ := c
    cases callee
    case builtin b =>
      simp only [vq] at hq ⊢
      generalize hts : argTypes.toList = ts at *
      obtain rfl : argTypes = ts.toArray := by rw [← hts]
      have hrl := relL_map hr args.toList
      have hargs : args.map ρ = (args.toList.map ρ).toArray := by rw [← Array.toList_map, Array.toArray_toList]
      have hrun : ∀ s : Sem Value, (∀ cs, builtin b ts.toArray ty cs (args.toList.map ρ).toArray = (do pure (Next.value (← s)))) → (execOp ρ ⟨dst, .call ⟨.builtin b, args, ts.toArray⟩, ty, pos, after, guard⟩) = (do pure (Next.value (← s))) := by
        intro s hs
        simp only [execOp, resolve, pure_bind, invoke, hargs]
        exact hs _
      generalize hus : args.toList.map ρ = us at *
      generalize hals : args.toList.map ev = als at *
      unfold qBuiltin at *
      split at hq <;> try exact hq.elim
      · rename_i t ts x als
        cases us with
        | nil => have := hrl.1; simp at this
        | cons u us =>
          rw [hrun _ (fun _ => rfl)]
          exact run_vq hq (qLen_good ty t ts us (hrl.2 0 _ _ rfl rfl))
      · rename_i t ts x als
        cases us with
        | nil => have := hrl.1; simp at this
        | cons u us =>
          rw [hrun _ (fun _ => rfl)]
          exact run_vq hq (qCap_good ty t ts us (hrl.2 0 _ _ rfl rfl))
      · rw [hrun _ (fun _ => rfl)]
        have := qMaxMin_good (P := P) true ts.toArray ty hrl
        exact run_vq hq this
      · rw [hrun _ (fun _ => rfl)]
        have := qMaxMin_good (P := P) false ts.toArray ty hrl
        exact run_vq hq this
    all_goals exact hq.elim
  all_goals exact hq.elim
end
end Go.Gd

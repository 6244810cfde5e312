/- That quiet operations give what is reckoned of them. No conditions. -/
import Derived.Test.YtemapkbfpkdddaaFcM
import Derived.WalkKit
set_option linter.all false
namespace Go.Fc
open Go

section
variable {P : Program} {w : World} {H : Hp}

theorem good_val {s : Sem Value} {q : PA} {v : Value} (h : q.1 → s.run P w = .ok v w) (hr : q.1 → RelV w H q.2 v) : Good P w H s q := fun hq => ⟨v, h hq, hr hq⟩
theorem unG_rel {a : AV} {v : Value} (h : RelV w H a v) (hp : (unG a).1 = true) : RelV w H (unG a).2 v := by
  unfold unG at *
  split
  · cases h with | gd p a v hh hu => exact hh hp
  · exact h

theorem qPick_good {c a b : AV} {vc va vb : Value} (hc : RelV w H c vc) (ha : RelV w H a va) (hb : RelV w H b vb) : Good P w H (do pure (if ← asBool vc then va else vb)) (qPick c a b) := by
  intro hq
  unfold qPick at *
  split at hq
  · rename_i cb pa x pb y e1 e2
    have := raw_inv hc
    subst this
    cases cb with
    | true =>
      have h := unG_rel ha (by rw [e1]; exact hq.1 rfl)
      rw [e1] at h
      have := raw_inv h
      subst this
      exact ⟨.bool x, by simp [asBool], by simpa [bsel] using RelV.raw _⟩
    | false =>
      have h := unG_rel hb (by rw [e2]; exact hq.2 rfl)
      rw [e2] at h
      have := raw_inv h
      subst this
      exact ⟨.bool y, by simp [asBool], by simpa [bsel] using RelV.raw _⟩
  · exact hq.elim

theorem qInt_good (op : BinOp) (t : TypeId) (k : IntKind) (a : Int) (k' : IntKind) (b : Int) (x y : Operand) : Good P w H (do eqGuard op t x y (.int k a) (.int k' b); binOp op t (.int k a) (.int k' b)) (qInt op k a k' b) := by
  intro hq
  cases op <;> simp only [qInt] at hq ⊢
  case shl =>
    have h0 : ¬ b < 0 := by omega
    exact ⟨_, by simp [eqGuard_at_int, binOp, Op.shift, h0], .raw _⟩
  case shr =>
    have h0 : ¬ b < 0 := by omega
    exact ⟨_, by simp [eqGuard_at_int, binOp, Op.shift, h0], .raw _⟩
  case quo => obtain ⟨rfl, h0⟩ := hq; exact ⟨_, by simp [eqGuard_at_int, binOp, Op.intDiv, h0], .raw _⟩
  case rem => obtain ⟨rfl, h0⟩ := hq; exact ⟨_, by simp [eqGuard_at_int, binOp, Op.intDiv, h0], .raw _⟩
  case and => subst hq; exact ⟨_, by simp [eqGuard_at_int, binOp, Op.intBits, bitsOf], .raw _⟩
  case or => subst hq; exact ⟨_, by simp [eqGuard_at_int, binOp, Op.intBits, bitsOf], .raw _⟩
  case xor => subst hq; exact ⟨_, by simp [eqGuard_at_int, binOp, Op.intBits, bitsOf], .raw _⟩
  case andNot => subst hq; exact ⟨_, by simp [eqGuard_at_int, binOp, Op.intBits, bitsOf], .raw _⟩
  case eql => subst hq; exact ⟨.bool (decide (a = b)), by simp [eqGuard_at_int, binOp, Op.intCmp, beq_dec], .raw _⟩
  case neq => subst hq; exact ⟨.bool (!decide (a = b)), by simp [eqGuard_at_int, binOp, Op.intCmp, bne, beq_dec], .raw _⟩
  all_goals (subst hq; exact ⟨_, by simp [eqGuard_at_int, binOp, Op.intArith, Op.intCmp]; try rfl, .raw _⟩)

theorem qStr_good (op : BinOp) (t : TypeId) (a b : ByteArray) (x y : Operand) : Good P w H (do eqGuard op t x y (.string a) (.string b); binOp op t (.string a) (.string b)) (qStr op a b) := by
  intro hq
  cases op <;> simp only [qStr] at hq ⊢
  case add =>
    have h0 : ¬ (((a.size + b.size : Nat) : Int) > IntKind.i64.max) := by rw [IntKind.max_i64]; omega
    exact ⟨_, by simp only [eqGuard_at_string, binOp, Op.stringOp, pure_bind, if_neg h0, Sem.run_pure], .raw _⟩
  case eql => exact ⟨_, by simp [eqGuard_at_string, binOp, Op.stringOp, toList_eq_iff], .raw _⟩
  case neq => exact ⟨_, by simp [eqGuard_at_string, binOp, Op.stringOp, toList_eq_iff], .raw _⟩
  case lss => exact ⟨_, by simp [eqGuard_at_string, binOp, Op.stringOp], .raw _⟩
  case gtr => exact ⟨_, by simp [eqGuard_at_string, binOp, Op.stringOp, toList_eq_iff], .raw _⟩
  case leq => exact ⟨_, by simp [eqGuard_at_string, binOp, Op.stringOp, toList_eq_iff], .raw _⟩
  case geq => exact ⟨_, by simp [eqGuard_at_string, binOp, Op.stringOp], .raw _⟩
  all_goals exact hq.elim

theorem qNil_good {a : AV} {v : Value} (x : Operand) {ρ : Operand → Value} (hx : ρ x = v) (h : RelV w H a v) (o : Oper) (ho : o.op = .nilCheck x) : (qNil a).1 → ∃ v', (execOp ρ o).run P w = .ok (.value v') w ∧ RelV w H (qNil a).2 v' := by
  intro hq
  unfold qNil at *
  split at hq <;> try exact hq.elim
  · cases h with | ip _ ad vs hb hH hcell hr => exact ⟨.pointer (some ad), by simp [execOp, ho, hx], .ip _ ad vs hb hH hcell hr⟩
  all_goals (have := raw_inv h; subst this; exact ⟨_, by simp [execOp, ho, hx]; try rfl, .raw _⟩)

theorem ptrT {t : TypeId} (h : isPtrT P t = true) : ∃ e, P.underlying t = some (.pointer e) := by
  unfold isPtrT at h; split at h <;> simp_all
theorem boolT {t : TypeId} (h : isBoolT P t = true) : P.underlying t = some .bool := by
  unfold isBoolT at h; split at h <;> simp_all
theorem strT {t : TypeId} (h : isStrT P t = true) : P.underlying t = some .string := by
  unfold isStrT at h; split at h <;> simp_all
theorem sliceT {t : TypeId} (h : isSliceT P t = true) : ∃ e, P.underlying t = some (.slice e) := by
  unfold isSliceT at h; split at h <;> simp_all

theorem equal_of {t : TypeId} {x y : Value} {r : Bool} (h : ∀ d, (Op.equalIn (d + 1) t x y).run P w = .ok r w) : (Op.equal t x y).run P w = .ok r w := h 9999

theorem eqne_run {ne : Bool} {t : TypeId} {x y : Operand} {a b : Value} {r : Bool} (hg : ∀ op, eqGuard op t x y a b = pure ()) (h1 : binOp .eql t a b = (do pure (.bool (← Op.equal t a b)))) (h2 : binOp .neq t a b = (do pure (.bool (!(← Op.equal t a b)))))
    (he : (Op.equal t a b).run P w = .ok r w) : ∃ v, (do eqGuard (if ne then .neq else .eql) t x y a b; binOp (if ne then .neq else .eql) t a b : Sem Value).run P w = .ok v w ∧ RelV w H (.raw (.bool (ne ^^ r))) v := by
  cases ne
  · simp only [Bool.false_eq_true, if_false, hg, h1, Sem.run_bind, he, Sem.run_pure, Result.andThen_ok]
    exact ⟨_, rfl, by simpa using RelV.raw _⟩
  · simp only [if_true, hg, h2, Sem.run_bind, he, Sem.run_pure, Result.andThen_ok]
    exact ⟨_, rfl, by simpa using RelV.raw _⟩

theorem qEqNe_good (ne : Bool) (t : TypeId) {a b : AV} {va vb : Value} (x y : Operand) (ha : RelV w H a va) (hb : RelV w H b vb) :
    Good P w H (do eqGuard (if ne then .neq else .eql) t x y va vb; binOp (if ne then .neq else .eql) t va vb) (qEqNe P ne t a b) := by
  intro hq
  unfold qEqNe at *
  split at hq <;> try exact hq.elim
  · have := raw_inv ha; have := raw_inv hb; subst_vars
    have ht := boolT hq
    exact eqne_run (fun op => eqGuard_at_bool _ _ _ _ _ _) rfl rfl (equal_of (fun d => by simp [Op.equalIn, run_underlying ht]))
  · have := raw_inv ha; have := raw_inv hb; subst_vars
    obtain ⟨e, ht⟩ := ptrT hq
    exact eqne_run (fun op => eqGuard_at_pointer _ _ _ _ _ _) rfl rfl (equal_of (fun d => by simp [Op.equalIn, run_underlying ht]))
  · have := raw_inv ha; have := raw_inv hb; subst_vars
    obtain ⟨e, ht⟩ := ptrT hq
    rename_i pa
    have := eqne_run (P := P) (w := w) (H := H) (ne := ne) (t := t) (x := x) (y := y) (a := .pointer (some pa)) (b := .pointer none) (r := false) (fun op => eqGuard_at_pointer _ _ _ _ _ _) rfl rfl (equal_of (fun d => by simp [Op.equalIn, run_underlying ht]))
    simpa using this
  · have := raw_inv hb; subst_vars
    obtain ⟨e, ht⟩ := ptrT hq
    cases ha with | ip cs ad vs _ _ _ _ =>
    have := eqne_run (P := P) (w := w) (H := H) (ne := ne) (t := t) (x := x) (y := y) (a := .pointer (some ad)) (b := .pointer none) (r := false) (fun op => eqGuard_at_pointer _ _ _ _ _ _) rfl rfl (equal_of (fun d => by simp [Op.equalIn, run_underlying ht]))
    simpa using this
  · have := raw_inv ha; have := raw_inv hb; subst_vars
    obtain ⟨e, ht⟩ := sliceT hq
    exact eqne_run (fun op => eqGuard_at_slice _ _ _ _ _ _ _ _) rfl rfl (equal_of (fun d => by simp [Op.equalIn, run_underlying ht]))
  · have := raw_inv ha; have := raw_inv hb; subst_vars
    obtain ⟨e, ht⟩ := sliceT hq
    rename_i pa n c m d
    have := eqne_run (P := P) (w := w) (H := H) (ne := ne) (t := t) (x := x) (y := y) (a := .slice (some pa) n c) (b := .slice none m d) (r := false) (fun op => eqGuard_at_slice _ _ _ _ _ _ _ _) rfl rfl (equal_of (fun d => by simp [Op.equalIn, run_underlying ht]))
    simpa using this
  · split at hq
    · rename_i ks hks
      exact agg_eq hks hq.1 hq.2.1 hq.2.2 ha hb
    · exact hq.elim

theorem qBin_good (op : BinOp) (t : TypeId) {a b : AV} {va vb : Value} (x y : Operand) (ha : RelV w H a va) (hb : RelV w H b vb) :
    Good P w H (do eqGuard op t x y va vb; binOp op t va vb) (qBin P op t a b) := by
  unfold qBin
  split
  · have := raw_inv ha; have := raw_inv hb; subst_vars; exact qInt_good op t _ _ _ _ x y
  · have := raw_inv ha; have := raw_inv hb; subst_vars; exact qStr_good op t _ _ x y
  · split
    · exact qEqNe_good false t x y ha hb
    · exact qEqNe_good true t x y ha hb
    · exact good_no

theorem qUn_good (op : UnOp) {a : AV} {v : Value} (h : RelV w H a v) : Good P w H (Op.unary op v) (qUn op a) := by
  intro hq
  unfold qUn at *
  split at hq <;> try exact hq.elim
  · have := raw_inv h; subst this; exact ⟨_, by simp [Op.unary], .raw _⟩
  · have := raw_inv h; subst this; exact ⟨_, by simp [Op.unary, Op.intArith], .raw _⟩

theorem qLoad_good (t : TypeId) {a : AV} {v : Value} (h : RelV w H a v) (hw : RelW w H) : Good P w H (Instr.loadAt t v) (qLoad P H t a) := by
  intro hq
  unfold qLoad at *
  split at hq <;> try exact hq.elim
  · rename_i cs k e1 e2 e3
    exact loadAt_sound h hw e1 e2 e3 hq.1 hq.2
  · rename_i cs k e1 e2 e3
    have := loadAt_sound (P := P) h hw e1 e2 e3 hq.1 hq.2
    simpa [loaded] using this

theorem fOff_spec {t : TypeId} {f off : Nat} (h : fOff P t f = some off) : ∃ fs fd k, P.underlying t = some (.struct fs) ∧ fs[f]? = some fd ∧ szOf P fd.type = some (k + 1) ∧ fd.offset = off := by
  unfold fOff at h
  split at h
  · rename_i fs hu
    split at h
    · rename_i fd hf
      split at h
      · rename_i k hk; exact ⟨fs, fd, k, hu, hf, hk, by simpa using h⟩
      · cases h
    · cases h
  · cases h

theorem qFieldAddr_good (t : TypeId) (f : Nat) {a : AV} {v : Value} (h : RelV w H a v) : Good P w H (Instr.fieldAt t v f) (qFieldAddr P t a f) := by
  intro hq
  unfold qFieldAddr at *
  split at hq <;> try exact hq.elim
  · rename_i cs off e
    obtain ⟨fs, fd, k, hu, hf, hk, rfl⟩ := fOff_spec e
    cases h with | ip _ ad vs hb hH hcell hr =>
    refine ⟨.pointer (some (ad.add fd.offset)), ?_, .ip _ _ (fun j => vs (fd.offset + j)) (by rw [block_of_add]; exact hb) (by rw [block_of_add]; exact hH) (fun j hj => ?_) (fun j u hu => ?_)⟩
    · simp [Instr.fieldAt, run_underlying hu, hf, Instr.sureAddr, fieldPlace, run_sizeOf' hk]
    · rw [add_of_add]; exact hcell _ (by simp at hj; omega)
    · rw [List.getElem?_drop] at hu; exact hr _ _ hu
  · rename_i b o off e
    obtain ⟨fs, fd, k, hu, hf, hk, rfl⟩ := fOff_spec e
    have := raw_inv h; subst this
    refine ⟨.pointer (some ⟨b, o + fd.offset, none⟩), ?_, .raw _⟩
    simp [Instr.fieldAt, run_underlying hu, hf, Instr.sureAddr, fieldPlace, run_sizeOf' hk, add_plain]

theorem fTy_spec {t ft : TypeId} {f off : Nat} (h : fTy P t f = some (ft, off)) : ∃ fs fd, P.underlying t = some (.struct fs) ∧ fs[f]? = some fd ∧ fd.type = ft ∧ fd.offset = off := by
  unfold fTy at h
  split at h
  · rename_i fs hu
    simp only [Option.map_eq_some_iff, Prod.mk.injEq] at h
    obtain ⟨fd, hf, h1, h2⟩ := h
    exact ⟨fs, fd, hu, hf, h1, h2⟩
  · cases h

theorem qPart_good (t : TypeId) {cs : List AV} {vs : Array Value} (hl : cs.length = vs.size) (hr : ∀ (i : Nat) a v, cs[i]? = some a → vs[i]? = some v → RelV w H a v) (off : Nat) : Good P w H (part t vs off) (qPart P t cs off) := by
  intro hq
  unfold qPart at *
  split at hq <;> try exact hq.elim
  · rename_i k e1 e2
    simp only at hq
    refine ⟨.agg (vs.extract off (off + k)), by simp [part, run_isAgg' e1, run_sizeOf' e2], .agg _ _ (by simp; omega) fun i a v ha hv => ?_⟩
    rw [List.getElem?_take] at ha
    split at ha
    · rw [List.getElem?_drop] at ha
      refine hr _ a v ha ?_
      rw [Array.getElem?_extract] at hv
      split at hv <;> simp_all
    · cases ha
  · rename_i k e1 e2
    simp only at hq
    have h1 : vs[off]? = some (vs[off]'(by omega)) := Array.getElem?_eq_getElem (by omega)
    refine ⟨vs[off]'(by omega), by simp [part, run_isAgg' e1, h1], hr off _ _ ?_ h1⟩
    simp [List.getElem?_eq_getElem hq]

theorem qField_good (t : TypeId) (f : Nat) {a : AV} {v : Value} (h : RelV w H a v) : Good P w H (Instr.field t v f) (qField P t a f) := by
  unfold qField
  split
  · rename_i cs ft off e
    obtain ⟨fs, fd, hu, hf, rfl, rfl⟩ := fTy_spec e
    cases h with | agg _ vs hl hr =>
    intro hq
    obtain ⟨v, h1, h2⟩ := qPart_good (P := P) fd.type hl hr fd.offset hq
    exact ⟨v, by simpa [Instr.field, run_underlying hu, hf, asAgg] using h1, h2⟩
  · exact good_no

theorem elSz_spec {t : TypeId} {k : Nat} (h : elSz P t = some k) : ∃ e, P.underlying t = some (.slice e) ∧ szOf P e = some k := by
  unfold elSz elT at h
  split at h
  · rename_i e hu; exact ⟨e, hu, by simpa using h⟩
  · cases h

theorem qIndexAddr_good (t : TypeId) {a i : AV} {va vi : Value} (ha : RelV w H a va) (hi : RelV w H i vi) : Good P w H (Instr.indexAt t va vi) (qIndexAddr P t a i) := by
  intro hq
  unfold qIndexAddr at *
  split at hq <;> try exact hq.elim
  · rename_i x sz n f k j
    have := raw_inv hi; subst this
    obtain ⟨e, hu, hs⟩ := elSz_spec hq.1
    have h0 := hq.2.1
    have h1 := hq.2.2
    cases ha with
    | sl0 => simp at h1; omega
    | sl _ _ _ _ ad c vs hn hc hx hsz hb hH hcell hr =>
      refine ⟨.pointer (some (ad.add (j.toNat * sz))), ?_, .ip _ _ (fun m => vs (j.toNat * sz + m)) (by rw [block_of_add]; exact hb) (by rw [block_of_add]; exact hH) (fun m hm => ?_) (fun m u hu => ?_)⟩
      · simp [Instr.indexAt, asIntOf, run_underlying hu, h0, h1, run_sizeOf' hs]
      · rw [add_of_add]; exact hcell _ m (by omega) (by rw [hsz _ (by omega)] at hm; exact hm)
      · exact hr _ m u (by omega) hu
  · rename_i b o n c k j
    split at hq
    · rename_i sz hs
      obtain ⟨e, hu, hs⟩ := elSz_spec hs
      have := raw_inv hi; have := raw_inv ha; subst_vars
      have h0 := hq.1
      have h1 := hq.2
      exact ⟨.pointer (some ⟨b, o + j.toNat * sz, none⟩), by simp [Instr.indexAt, asIntOf, run_underlying hu, h0, h1, run_sizeOf' hs, add_plain], .raw _⟩
    · exact hq.elim

theorem qIndex_good (t : TypeId) {a i : AV} {va vi : Value} (ha : RelV w H a va) (hi : RelV w H i vi) : Good P w H (Instr.index t va vi) (qIndex P t a i) := by
  intro hq
  unfold qIndex at *
  split at hq <;> try exact hq.elim
  rename_i s k j
  have := raw_inv hi; have := raw_inv ha; subst_vars
  have ht := strT hq.1
  have h0 := hq.2.1
  have h1 : j.toNat < s.size := by have := hq.2.2; omega
  refine ⟨.int .u8 (byteAt s j), ?_, .raw _⟩
  have h2 : s[j.toNat]? = some s[j.toNat] := by simp [h1]
  have h3 : byteAt s j = (s[j.toNat].toNat : Int) := by
    have h4 : s.data[j.toNat]? = some s[j.toNat] := Array.getElem?_eq_getElem h1
    simp only [byteAt, h4, Option.getD_some]
  simp [Instr.index, asIntOf, run_underlying ht, h0, h2, h3]

theorem qExtract_good {a : AV} {v : Value} (h : RelV w H a v) (i : Nat) : Good P w H (Instr.extract v i) (qExtract a i) := by
  intro hq
  unfold qExtract at *
  split at hq <;> try exact hq.elim
  rename_i cs
  cases h with | tup _ vs hl hr =>
  simp only at hq
  have h1 : vs[i]? = some (vs[i]'(by omega)) := Array.getElem?_eq_getElem (by omega)
  refine ⟨vs[i]'(by omega), by simp [Instr.extract, h1], hr i _ _ ?_ h1⟩
  simp [List.getElem?_eq_getElem hq]

theorem rawsOf_rel : ∀ {l : List AV} {vs us : List Value}, rawsOf l = some vs → RelL w H l us → us = vs
  | [], vs, us, h, hr => by
    simp [rawsOf] at h; subst h
    have := hr.1; simp at this; simpa using this.symm
  | a :: l, vs, us, h, hr => by
    cases a <;> simp only [rawsOf] at h <;> try cases h
    rename_i v
    simp only [Option.map_eq_some_iff] at h
    obtain ⟨vs', h', rfl⟩ := h
    cases us with
    | nil => have := hr.1; simp at this
    | cons u us =>
      have h0 : u = v := raw_inv (hr.2 0 _ _ rfl rfl)
      have := rawsOf_rel h' (us := us) ⟨by have := hr.1; simpa using this, fun i a v ha hv => hr.2 (i + 1) a v (by simpa using ha) (by simpa using hv)⟩
      rw [h0, this]

theorem qFunc_good (fn : Fn) {a b : List AV} {va vb : List Value} (ha : RelL w H a va) (hb : RelL w H b vb) : Good P w H (Instr.makeFunc fn va.toArray vb.toArray) (qFunc fn a b) := by
  intro hq
  unfold qFunc at *
  split at hq <;> try exact hq.elim
  rename_i f
  have : va = [] := by have := ha.1; simpa using this.symm
  subst this
  exact ⟨.func (.func f) #[] vb.toArray, by simp [Instr.makeFunc], .clo f _ _ (by rw [hb.1]; simp) (fun i a v h1 h2 => hb.2 i a v h1 (by simpa using h2))⟩

theorem qIface_good (t : TypeId) {a : AV} {v : Value} (h : RelV w H a v) : Good P w H (Instr.makeInterface t v) (qIface P t a) := by
  intro hq
  unfold qIface at *
  split at hq <;> try exact hq.elim
  rename_i u d e1 e2
  have := raw_inv h; subst this
  refine ⟨.iface t v, ?_, .raw _⟩
  simp only [Instr.makeInterface, Sem.run_bind, run_underlying e2, Result.andThen_ok]
  cases d <;> first | rfl | (simp [isIfaceT, e2] at e1)

theorem qLen_good (ty t : TypeId) (ts : List TypeId) {a : AV} {v : Value} (vs : List Value) (h : RelV w H a v) : Good P w H (Builtin.len_ (t :: ts).toArray ty (v :: vs).toArray) (qLen P t a) := by
  intro hq
  unfold qLen at *
  split at hq <;> try exact hq.elim
  · obtain ⟨e, ht⟩ := sliceT hq
    cases h <;> exact ⟨_, by simp [Builtin.len_, run_underlying ht, goInt], .raw _⟩
  · obtain ⟨e, ht⟩ := sliceT hq
    have := raw_inv h; subst this
    exact ⟨_, by simp [Builtin.len_, run_underlying ht, goInt], .raw _⟩
  · have ht := strT hq
    have := raw_inv h; subst this
    exact ⟨_, by simp [Builtin.len_, run_underlying ht, goInt], .raw _⟩
theorem qCap_good (ty t : TypeId) (ts : List TypeId) {a : AV} {v : Value} (vs : List Value) (h : RelV w H a v) : Good P w H (Builtin.cap_ (t :: ts).toArray ty (v :: vs).toArray) (qCap P t a) := by
  intro hq
  unfold qCap at *
  split at hq <;> try exact hq.elim
  · obtain ⟨e, ht⟩ := sliceT hq
    cases h with
    | sl0 _ _ _ _ c hx => have := hx rfl; subst this; exact ⟨_, by simp [Builtin.cap_, run_underlying ht, goInt], .raw _⟩
    | sl _ _ _ _ _ c _ _ _ hx => have := (hx rfl).1; subst this; exact ⟨_, by simp [Builtin.cap_, run_underlying ht, goInt], .raw _⟩
  · obtain ⟨e, ht⟩ := sliceT hq
    have := raw_inv h; subst this
    exact ⟨_, by simp [Builtin.cap_, run_underlying ht, goInt], .raw _⟩
end
end Go.Fc

/- A region that leaves its order open, effects and all: the effects stand in a chain, what is quiet lies anywhere. No conditions. -/
import Derived.Test.YtemapkbfpkdddaaFcL
set_option linter.all false
namespace Go.Fc
open Go
section
variable {P : Program} {ops : Array Oper} {H : Hp}

theorem vCall_congr' {f f' : AV} {args args' : List AV} {K : AV → Hp → Prop} (h1 : f = f') (h2 : args = args') : vCall P f args H K = vCall P f' args' H K := by rw [h1, h2]
theorem vc_congr {ev ev' : Operand → AV} {ty : TypeId} {K : AV → Hp → Prop} (o : Op) (h : ∀ x ∈ o.operands.toList, ev x = ev' x) : vc P ev H ty K o = vc P ev' H ty K o := by
  have quiet : ((vq P ev H o).1 ∧ K (vq P ev H o).2 H) = ((vq P ev' H o).1 ∧ K (vq P ev' H o).2 H) := by rw [vq_congr o h]
  have other : OpVC P o ty ev H K = OpVC P o ty ev' H K := by
    unfold OpVC
    apply propext
    constructor <;> intro hh w ρ dst pos after guard h1 h2
    · exact hh w ρ dst pos after guard h1 fun x hx => by rw [h x hx]; exact h2 x hx
    · exact hh w ρ dst pos after guard h1 fun x hx => by rw [← h x hx]; exact h2 x hx
  cases o
  case box t x => simp only [vc]; rw [h x (by simp [Op.operands])]
  case store t a x => simp only [vc]; rw [h x (by simp [Op.operands]), h a (by simp [Op.operands])]
  case buildSlice t n ps =>
    simp only [Op.operands] at h
    simp only [vc]
    rw [List.map_congr_left (g := fun p => (p.1, ev' p.2)) (fun x hx => by rw [h x.2 (by simp at hx ⊢; exact ⟨_, hx⟩)])]
  case binOp op t x y t' =>
    cases op <;> first
      | (simp only [vc]; rw [h x (by simp [Op.operands]), h y (by simp [Op.operands])]; done)
      | exact quiet
  case call c =>
    obtain ⟨callee, args, ts⟩ := c
    cases callee
    case value f =>
      simp only [Op.operands, Call.operands] at h
      simp only [vc]
      rw [h f (by simp), List.map_congr_left (fun x hx => h x (by simp at hx ⊢; exact .inr hx))]
    case builtin b =>
      have hm : args.toList.map ev = args.toList.map ev' := List.map_congr_left fun x hx => h x (by simpa [Op.operands, Call.operands] using hx)
      cases b
      case append =>
        simp only [vc]
        split
        · rename_i t t' a x ht ha
          rw [h a (by simp [Op.operands, Call.operands]; rw [← Array.mem_toList_iff, ha]; simp), h x (by simp [Op.operands, Call.operands]; rw [← Array.mem_toList_iff, ha]; simp)]
        · rfl
      case len => exact quiet
      case cap => exact quiet
      case max => exact quiet
      case min => exact quiet
      all_goals (simp only [vc, quietOp, Bool.false_eq_true, if_false]; rw [hm])
    all_goals exact other
  all_goals first
    | rfl
    | exact quiet
    | exact other

theorem vNilEq_other {ne : Bool} {t : TypeId} {a b : AV} {K : AV → Hp → Prop} (hno : ∀ x sz n f, a = .sl x sz n f → b = .raw (.slice none 0 0) → False) :
    vNilEq P ne t a b H K = ((qBin P (if ne then .neq else .eql) t a b).1 ∧ K (qBin P (if ne then .neq else .eql) t a b).2 H) := by
  unfold vNilEq
  split
  · exact (hno _ _ _ _ rfl rfl).elim
  · rfl
theorem vc_mono {ev : Operand → AV} {ty : TypeId} {K K' : AV → Hp → Prop} (o : Op) (hk : ∀ r H', K r H' → K' r H') (h : vc P ev H ty K o) : vc P ev H ty K' o := by
  have quiet : ((vq P ev H o).1 ∧ K (vq P ev H o).2 H) → ((vq P ev H o).1 ∧ K' (vq P ev H o).2 H) := fun h => ⟨h.1, hk _ _ h.2⟩
  have other : OpVC P o ty ev H K → OpVC P o ty ev H K' := fun hh w ρ dst pos after guard h1 h2 => by
    obtain ⟨w', H', r, g1, g2⟩ := hh w ρ dst pos after guard h1 h2
    exact ⟨w', H', r, hk _ _ g1, g2⟩
  cases o
  case box t x => exact ⟨h.1, fun b hb => hk _ _ (h.2 b hb)⟩
  case alloc t =>
    simp only [vc, vAlloc] at h ⊢
    split at h
    · exact fun b hb => hk _ _ (h b hb)
    · exact h.elim
  case store t a x =>
    simp only [vc, vStore] at h ⊢
    split at h
    · split at h
      · exact ⟨h.1, hk _ _ h.2⟩
      · exact h.elim
    · exact h.elim
  case buildSlice t n ps => exact vLit_mono h fun r => hk r H
  case binOp op t x y t' =>
    have nileq : ∀ ne, vNilEq P ne t (ev x) (ev y) H K → vNilEq P ne t (ev x) (ev y) H K' := fun ne h => by
      unfold vNilEq at h ⊢
      split at h
      · exact ⟨h.1, fun b hb => hk _ _ (h.2 b hb)⟩
      · rename_i hno
        exact ⟨h.1, hk _ _ h.2⟩
    cases op <;> first
      | exact nileq false h
      | exact nileq true h
      | exact quiet h
  case call c =>
    obtain ⟨callee, args, ts⟩ := c
    cases callee
    case value f => exact vCall_mono h hk
    case builtin b =>
      have bvc : BuiltinVC P b ts.toList (args.toList.map ev) H K → BuiltinVC P b ts.toList (args.toList.map ev) H K' := fun hh w vs ty cs h1 h2 => by
        obtain ⟨w', H', r, v, g1, g2, g3⟩ := hh w vs ty cs h1 h2
        exact ⟨w', H', r, v, g1, hk _ _ g2, g3⟩
      cases b
      case append =>
        simp only [vc] at h ⊢
        split at h
        · intro w va vx ty h1 h2 h3
          obtain ⟨w', H', r, v, g1, g2, g3⟩ := h w va vx ty h1 h2 h3
          exact ⟨w', H', r, v, g1, hk _ _ g2, g3⟩
        · exact h.elim
      case len => exact quiet h
      case cap => exact quiet h
      case max => exact quiet h
      case min => exact quiet h
      all_goals exact bvc h
    all_goals exact other h
  all_goals first
    | exact quiet h
    | exact other h

-- what is quiet, what is an effect
def isLit : Op → Bool
  | .buildSlice .. => true
  | _ => false
def effO (o : Oper) : Bool := o.guard.isNone && !quietOp o.op && !eqOp o.op && !isLit o.op
/-- Quiet, but it hangs on what is owned. -/
def hdepO (o : Oper) : Bool := match o.op with
  | .load .. => true
  | .call { callee := .value _, .. } => true
  | _ => false
/-- One operation of a region that leaves its order open. -/
def vcD (P : Program) (ev : Operand → AV) (H : Hp) (ty : TypeId) (K : AV → Hp → Prop) (op : Op) : Prop := if eqOp op then (vq P ev H op).1 ∧ K (vq P ev H op).2 H else vc P ev H ty K op
def vclD (P : Program) (ops : Array Oper) (K : List AV → Hp → Prop) : List Oper → List AV → Hp → Prop
  | [], F, H => K F H
  | o :: rest, F, H => match o.guard with
    | none => vcD P (evA F) H o.type (fun r H' => vclD P ops K rest (putA F o.dst r) H') o.op
    | some (j, want) => match guardB ops F j want with
      | some b => (isCallV o.op || guardQuiet o.op) = true ∧ vcG P F H b (fun r => vclD P ops K rest (putA F o.dst r) H) o.op
      | none => False

theorem vq_any {ev : Operand → AV} {H' : Hp} {o : Oper} (h : hdepO o = false) : vq P ev H o.op = vq P ev H' o.op := by
  obtain ⟨dst, op, ty, pos, after, guard⟩ := o
  cases op <;> first
    | rfl
    | (simp [hdepO] at h; done)
    | (rename_i c; obtain ⟨callee, args, ts⟩ := c; cases callee <;> rfl)
theorem vcG_any {F : List AV} {g : Bool} {K : AV → Prop} {H' : Hp} {o : Oper} (h : hdepO o = false) : vcG P F H g K o.op = vcG P F H' g K o.op := by
  have hc : isCallV o.op = false := by
    obtain ⟨dst, op, ty, pos, after, guard⟩ := o
    cases op <;> first
      | rfl
      | (rename_i c; obtain ⟨callee, args, ts⟩ := c; cases callee <;> first | rfl | simp [hdepO] at h)
  by_cases hp : isPick o.op = true
  · obtain ⟨dst, op, ty, pos, after, guard⟩ := o
    cases op <;> first | (cases hp; done) | rfl
  have hp : isPick o.op = false := by simpa using hp
  rw [vcG_other _ hc hp, vcG_other _ hc hp, vq_any h]

theorem vc_quiet {ev : Operand → AV} {ty : TypeId} {K : AV → Hp → Prop} {o : Op} (h : quietOp o = true) : vc P ev H ty K o = ((vq P ev H o).1 ∧ K (vq P ev H o).2 H) := by
  cases o
  case binOp op t x y t' => cases op <;> first | (simp [quietOp] at h; done) | simp [vc, quietOp]
  case call c =>
    obtain ⟨callee, args, ts⟩ := c
    cases callee
    case builtin b => cases b <;> first | (simp [quietOp] at h; done) | simp [vc, quietOp]
    all_goals (simp [quietOp] at h; done)
  all_goals first
    | (simp [quietOp] at h; done)
    | simp [vc, quietOp]
/-- What one operation does, wherever it comes. -/
theorem stepD {K : List AV → Hp → Prop} {o : Oper} {rest : List Oper} {F : List AV} (h : vclD P ops K (o :: rest) F H) :
    (effO o = true ∧ ∀ G, Agree ops o F G → AOp P ops o G H fun G' H' => ∃ r, G' = putA G o.dst r ∧ vclD P ops K rest (putA F o.dst r) H') ∨
    (effO o = false ∧ ∃ r, QV P ops o F H r ∧ (hdepO o = false → ∀ H', QV P ops o F H' r) ∧ vclD P ops K rest (putA F o.dst r) H) := by
  unfold vclD at h
  split at h
  · rename_i hg
    unfold vcD at h
    split at h
    · rename_i he
      exact .inr ⟨by simp [effO, he], _, qv_quiet hg h.1, fun hd H' => by rw [vq_any hd]; exact qv_quiet hg (by rw [← vq_any (H := H) hd]; exact h.1), h.2⟩
    · rename_i he
      by_cases hl : isLit o.op = true
      · refine .inr ⟨by simp [effO, hl], ?_⟩
        obtain ⟨dst, op, ty, pos, after, guard⟩ := o
        simp only at hg
        subst hg
        cases op <;> first | (simp [isLit] at hl; done) | skip
        rename_i t n parts
        simp only [vc] at h
        unfold vLit at h
        split at h
        · rename_i sz hsz
          exact ⟨_, qv_lit (by unfold vLit; rw [hsz]; exact ⟨h.1, rfl, rfl⟩), fun _ H' => qv_lit (by unfold vLit; rw [hsz]; exact ⟨h.1, rfl, rfl⟩), h.2⟩
        · exact h.elim
      · by_cases hq : quietOp o.op = true
        · have h' : (vq P (evA F) H o.op).1 ∧ vclD P ops K rest (putA F o.dst (vq P (evA F) H o.op).2) H := by
            rw [vc_quiet hq] at h
            exact h
          exact .inr ⟨by simp [effO, hq], _, qv_quiet hg h'.1, fun hd H' => by rw [vq_any hd]; exact qv_quiet hg (by rw [← vq_any (H := H) hd]; exact h'.1), h'.2⟩
        · refine .inl ⟨by simp [effO, hg]; simp at hq he hl; exact ⟨⟨hq, he⟩, hl⟩, fun G hG => ?_⟩
          refine aop_vc hg ?_
          rw [vc_congr o.op hG.1]
          exact vc_mono o.op (fun r H' hk => ⟨r, rfl, hk⟩) h
  · rename_i j want hg
    split at h
    · rename_i b hb
      obtain ⟨hq, hv⟩ := h
      obtain ⟨r, h1, h2⟩ := vcG_elim hv
      have h3 := h2 F (fun r' => r' = .gd b r) (fun _ _ => rfl) rfl
      exact .inr ⟨by simp [effO, hg], _, qv_guard hg hb hq h3, fun hd H' => qv_guard hg hb hq (by rw [vcG_any hd] at h3; exact h3), h1⟩
    · exact h.elim

def atO (l : List Oper) (i : Nat) : Oper := l.getD i default
def effAt (l : List Oper) (i : Nat) : Bool := effO (atO l i)
/-- The rest of an order that begins with what is done. -/
def ordOK (l : List Oper) (ps : List (List Nat)) : List Nat → List Nat → Bool
  | done, [] => (List.range l.length).all fun i => done.contains i
  | done, i :: rest => ((ps.getD i []).all fun k => done.contains k) && !done.contains i && decide (i < l.length) &&
      (!effAt l i || ((rest.all fun k => (ps.getD k []).contains i) && done.all fun q => effAt l q || !hdepO (atO l q) || (ps.getD i []).contains q)) && ordOK l ps (i :: done) rest
def effOK (l : List Oper) (ord : List Nat) : Bool := drawOK l && ordOK l (preds l) [] ord

def mem (done : List Nat) (i : Nat) : Bool := done.contains i

theorem ordOK_cons {l : List Oper} {done rest : List Nat} {i : Nat} (h : ordOK l (preds l) done (i :: rest) = true) :
    (∀ k ∈ (preds l).getD i [], k ∈ done) ∧ i ∉ done ∧ i < l.length ∧ (effAt l i = true → (∀ k ∈ rest, i ∈ (preds l).getD k []) ∧ ∀ q ∈ done, effAt l q = true ∨ hdepO (atO l q) = false ∨ q ∈ (preds l).getD i []) ∧ ordOK l (preds l) (i :: done) rest = true := by
  simp only [ordOK, Bool.and_eq_true, List.all_eq_true, List.contains_iff_mem, Bool.not_eq_true', decide_eq_true_eq, Bool.or_eq_true] at h
  obtain ⟨⟨⟨⟨h1, h2⟩, h3⟩, h4⟩, h5⟩ := h
  refine ⟨h1, by simpa using h2, h3, fun he => ?_, h5⟩
  rcases h4 with h4 | h4
  · rw [he] at h4; cases h4
  · exact ⟨h4.1, fun q hq => by
      rcases h4.2 q hq with (h | h) | h
      · exact .inl h
      · exact .inr (.inl h)
      · exact .inr (.inr h)⟩
theorem ordOK_pin {l : List Oper} : ∀ {rest done : List Nat}, ordOK l (preds l) done rest = true → ∀ e ∈ rest, effAt l e = true → ∀ q ∈ done, effAt l q = true ∨ hdepO (atO l q) = false ∨ q ∈ (preds l).getD e []
  | [], _, _ => fun e he => by simp at he
  | i :: rest, done, h => fun e he hef q hq => by
    obtain ⟨_, _, _, h4, h5⟩ := ordOK_cons h
    rcases List.mem_cons.1 he with rfl | he
    · exact (h4 hef).2 q hq
    · exact ordOK_pin h5 e he hef q (List.mem_cons_of_mem _ hq)
theorem ordOK_cover {l : List Oper} : ∀ {rest done : List Nat}, ordOK l (preds l) done rest = true → ∀ i, i < l.length → i ∈ done ∨ i ∈ rest
  | [], done, h => fun i hi => by
    simp only [ordOK, List.all_eq_true, List.mem_range, List.contains_iff_mem] at h
    exact .inl (h i hi)
  | j :: rest, done, h => fun i hi => by
    obtain ⟨_, _, _, _, h5⟩ := ordOK_cons h
    rcases ordOK_cover h5 i hi with h | h
    · rcases List.mem_cons.1 h with rfl | h
      · exact .inr (by simp)
      · exact .inl h
    · exact .inr (List.mem_cons_of_mem _ h)

theorem mem_spec {done : List Nat} {i : Nat} : mem done i = true ↔ i ∈ done := by simp [mem]
theorem mem_cons_eq (done : List Nat) (i : Nat) : (fun k => mem (i :: done) k) = fun k => mem done k || k == i := by
  funext k
  rw [Bool.eq_iff_iff]
  simp [mem, or_comm]

/-- The preds of an operation hold the direct ones. -/
theorem preds_direct {l : List Oper} {i : Nat} {o : Oper} (ho : l[i]? = some o) {e : Edge} (he : e ∈ o.after.toList) (hb : Region.binds .any e = true) : e.on ∈ (preds l).getD i [] := by
  rw [preds_at ho, mem_nub]
  exact List.mem_flatMap.2 ⟨e, List.mem_filter.2 ⟨he, hb⟩, by simp⟩

theorem val_congr {os : List Oper} {rs F : List AV} {L L' : Nat → Bool} {s : Nat} (h : ∀ k o, os[k]? = some o → o.dst = some s → L k = L' k) : ∀ m, valL os rs L F s m = valL os rs L' F s m
  | 0 => rfl
  | m + 1 => by
    unfold valL
    rw [val_congr h m]
    cases ho : os[m]? with
    | none => simp
    | some o =>
      simp only [Option.bind_some]
      by_cases hd : o.dst = some s
      · rw [h m o ho hd]
      · simp [hd]
theorem FL_set {os : List Oper} {rs F : List AV} {L : Nat → Bool} {i : Nat} {r : AV} (hL : L i = false) : ∀ m, FL os (rs.set i r) L F m = FL os rs L F m
  | 0 => rfl
  | m + 1 => by
    unfold FL
    rw [FL_set hL m]
    by_cases hm : m = i
    · subst hm; simp [hL]
    · have : (rs.set i r).getD m .any = rs.getD m .any := by simp [List.getElem?_set, Ne.symm hm]
      rw [this]

section
variable {l : List Oper} (hlt : ∀ j o, l[j]? = some o → ∀ e ∈ o.after.toList, Region.binds .any e = true → e.on < j)
  (hcl : ∀ i j a b, i < j → l[i]? = some a → l[j]? = some b → clash l a b = true → i ∈ (preds l).getD j [])
include hlt hcl
/-- Who has written, of those that write where an operation touches that may go next. -/
theorem writers {L : Nat → Bool} (hcls : Closed l L) {i : Nat} {o : Oper} (ho : l[i]? = some o) (hif : L i = false) (hpre : ∀ e ∈ o.after.toList, Region.binds .any e = true → L e.on = true) :
    ∀ k o' s, l[k]? = some o' → o'.dst = some s → (s ∈ looks l o ∨ o.dst = some s) → L k = decide (k < i) := by
  intro k o' s hk hs hcase
  have hbefore := closed_preds hcls hlt (i + 1) i (by omega) o ho hpre
  rcases Nat.lt_trichotomy k i with h | h | h
  · rw [decide_eq_true h]
    refine hbefore k (hcl k i o' o h hk ho ?_)
    unfold clash
    rw [hs]
    rcases hcase with h5 | h5
    · simp [h5]
    · simp [h5]
  · subst h; simpa using hif
  · rw [decide_eq_false (by omega)]
    cases hv : L k with
    | false => rfl
    | true =>
      have hki : i ∈ (preds l).getD k [] := hcl i k o o' h ho hk (by
        unfold clash
        rw [hs]
        rcases hcase with h5 | h5
        · simp [h5]
        · simp [h5])
      have := closed_preds hcls hlt (k + 1) k (by omega) o' hk (fun e he hb => hcls k o' hk hv e he hb) i hki
      rw [hif] at this; cases this
theorem agree_sets {rs F : List AV} {L L' : Nat → Bool} (hL : Closed l L) (hL' : Closed l L') {i : Nat} {o : Oper} (ho : l[i]? = some o) (h1 : L i = false) (h2 : L' i = false)
    (h3 : ∀ e ∈ o.after.toList, Region.binds .any e = true → L e.on = true) (h4 : ∀ e ∈ o.after.toList, Region.binds .any e = true → L' e.on = true) : Agree l.toArray o (FL l rs L F l.length) (FL l rs L' F l.length) := by
  refine agree_of (by rw [FL_length, FL_length]) fun s hs hlen => ?_
  rw [FL_length] at hlen
  rw [FL_get _ _ _ _ hlen, FL_get _ _ _ _ hlen]
  exact (val_congr (fun k o' hk hd => by rw [writers hlt hcl hL ho h1 h3 k o' s hk hd (.inl hs), writers hlt hcl hL' ho h2 h4 k o' s hk hd (.inl hs)]) _).symm
theorem next_set {rs F : List AV} {L L2 : Nat → Bool} (hL : Closed l L) {i : Nat} {o : Oper} (ho : l[i]? = some o) (h1 : L i = false) (h3 : ∀ e ∈ o.after.toList, Region.binds .any e = true → L e.on = true) {r : AV} (hr : rs.getD i .any = r) (hL2 : ∀ k, L2 k = (L k || k == i)) :
    putA (FL l rs L F l.length) o.dst r = FL l rs L2 F l.length := by
  have hil := (List.getElem?_eq_some_iff.1 ho).1
  refine FL_ext (m' := 0) (L' := fun _ => true) (by cases o.dst <;> simp [putA, FL_length]) fun s hs => ?_
  by_cases hd : o.dst = some s
  · rw [val_last (L := L) ho hL2 (fun k o' hk hd' => writers hlt hcl hL ho h1 h3 k o' s hk hd' (.inr hd)) hd _ hil, hd, hr]
    simp [putA, FL_length, hs]
  · rw [val_same (L := L) ho hL2 hd, ← FL_get _ _ _ _ hs]
    cases hd' : o.dst with
    | none => rfl
    | some d =>
      have : d ≠ s := fun e => hd (by rw [hd', e])
      simp [putA, List.getElem?_set, this]
end

/-- How far a run has come: what the walk has done, in its order, and what the run has done of it. -/
structure Inv (P : Program) (l : List Oper) (K : List AV → Hp → Prop) (F : List AV) (L : Nat → Bool) (done rest : List Nat) (rs : List AV) (H : Hp) : Prop where
  len : rs.length = l.length
  sub : ∀ i, L i = true → i ∈ done
  clo : Closed l L
  dclo : Closed l (mem done)
  ord : ordOK l (preds l) done rest = true
  walk : vclD P l.toArray K (rest.map (atO l)) (FL l rs (mem done) F l.length) H
  wait : ∀ i ∈ done, L i = false → effAt l i = false ∧ i < l.length ∧ ∃ D, Closed l D ∧ D i = false ∧ (∀ k, D k = true → k ∈ done) ∧ (∀ e ∈ (atO l i).after.toList, Region.binds .any e = true → D e.on = true) ∧
    QV P l.toArray (atO l i) (FL l rs D F l.length) H (rs.getD i .any) ∧ (hdepO (atO l i) = false → ∀ H', QV P l.toArray (atO l i) (FL l rs D F l.length) H' (rs.getD i .any))

theorem atO_get {l : List Oper} {i : Nat} (hi : i < l.length) : l[i]? = some (atO l i) := by simp [atO, hi]

section
variable {l : List Oper} {K : List AV → Hp → Prop} {F : List AV} (hok : drawOK l = true)
include hok
theorem dclo_cons {done : List Nat} {i : Nat} (hi : i < l.length) (hd : Closed l (mem done)) (hp : ∀ k ∈ (preds l).getD i [], k ∈ done) : Closed l (mem (i :: done)) := fun j o ho hj e he hb => by
  rw [mem_spec] at hj ⊢
  rcases List.mem_cons.1 hj with rfl | hj
  · exact List.mem_cons_of_mem _ (hp _ (preds_direct ho he hb))
  · exact List.mem_cons_of_mem _ (mem_spec.1 (hd j o ho (mem_spec.2 hj) e he hb))

/-- What is quiet, up to the next effect. -/
theorem absorb : ∀ (rest : List Nat) {L : Nat → Bool} {done : List Nat} {rs : List AV}, Inv P l K F L done rest rs H →
    ∃ done' rest' rs', Inv P l K F L done' rest' rs' H ∧ (∀ i r, rest' = i :: r → effAt l i = true) ∧ FL l rs' L F l.length = FL l rs L F l.length
  | [], L, done, rs, h => ⟨done, [], rs, h, (fun i r e => by cases e), rfl⟩
  | i :: rest, L, done, rs, h => by
    obtain ⟨hlt, hcl⟩ := draw_spec hok
    cases he : effAt l i with
    | true => exact ⟨done, i :: rest, rs, h, fun j r e => by cases e; exact he, rfl⟩
    | false =>
      obtain ⟨hp, hni, hil, _, h5⟩ := ordOK_cons h.ord
      have ho := atO_get hil
      have hw := h.walk
      rw [List.map_cons] at hw
      rcases stepD hw with ⟨hx, _⟩ | ⟨_, r, q1, q2, q3⟩
      · unfold effAt at he; rw [he] at hx; cases hx
      have hmi : mem done i = false := by rw [← Bool.not_eq_true, mem_spec]; exact hni
      have hLi : L i = false := by
        cases e : L i with
        | false => rfl
        | true => exact (hni (h.sub i e)).elim
      have hpre : ∀ e ∈ (atO l i).after.toList, Region.binds .any e = true → mem done e.on = true := fun e he hb => mem_spec.2 (hp _ (preds_direct ho he hb))
      have hset : ∀ D : Nat → Bool, (∀ k, D k = true → k ∈ done) → FL l (rs.set i r) D F l.length = FL l rs D F l.length := fun D hD => FL_set (by
        cases e : D i with
        | false => rfl
        | true => exact (hni (hD i e)).elim) _
      have hget : (rs.set i r).getD i .any = r := by simp [h.len, hil]
      have hne : ∀ j, j ≠ i → (rs.set i r).getD j .any = rs.getD j .any := fun j hj => by simp [List.getElem?_set, Ne.symm hj]
      have hnext := next_set (rs := rs.set i r) (F := F) hlt hcl h.dclo ho hmi hpre hget (L2 := mem (i :: done)) (fun k => by rw [show mem (i :: done) k = (fun k => mem (i :: done) k) k from rfl, mem_cons_eq])
      rw [hset _ (fun k hk => mem_spec.1 hk)] at hnext
      have hinv : Inv P l K F L (i :: done) rest (rs.set i r) H := by
        refine ⟨by simpa using h.len, fun k hk => List.mem_cons_of_mem _ (h.sub k hk), h.clo, dclo_cons hok hil h.dclo hp, h5, by rw [← hnext]; exact q3, fun j hj hLj => ?_⟩
        rcases List.mem_cons.1 hj with rfl | hj
        · exact ⟨he, hil, mem done, h.dclo, hmi, fun k hk => List.mem_cons_of_mem _ (mem_spec.1 hk), hpre, by rw [hset _ (fun k hk => mem_spec.1 hk), hget]; exact q1, fun hd H' => by rw [hset _ (fun k hk => mem_spec.1 hk), hget]; exact q2 hd H'⟩
        · obtain ⟨w1, w2, D, w3, w4, w5, w6, w7, w8⟩ := h.wait j hj hLj
          have hji : j ≠ i := fun e => hni (e ▸ hj)
          exact ⟨w1, w2, D, w3, w4, fun k hk => List.mem_cons_of_mem _ (w5 k hk), w6, by rw [hset _ w5, hne j hji]; exact w7, fun hd H' => by rw [hset _ w5, hne j hji]; exact w8 hd H'⟩
      obtain ⟨d', r', rs', g1, g2, g3⟩ := absorb rest hinv
      exact ⟨d', r', rs', g1, g2, by rw [g3, hset _ h.sub]⟩

/-- One step of the run: the next operation, ready, and what it does. -/
theorem inv_step {L : Nat → Bool} {done rest : List Nat} {rs : List AV} (h : Inv P l K F L done rest rs H) (hs : ∀ i r, rest = i :: r → effAt l i = true) {i : Nat} {o : Oper} (ho : l[i]? = some o) (hi : L i = false) (hpre : ∀ e ∈ o.after.toList, Region.binds .any e = true → L e.on = true)
    {L2 : Nat → Bool} (hL2 : ∀ k, L2 k = (L k || k == i)) :
    AOp P l.toArray o (FL l rs L F l.length) H fun G' H' => ∃ done' rest' rs', Inv P l K F L2 done' rest' rs' H' ∧ (∀ i r, rest' = i :: r → effAt l i = true) ∧ G' = FL l rs' L2 F l.length := by
  obtain ⟨hlt, hcl⟩ := draw_spec hok
  have hil := (List.getElem?_eq_some_iff.1 ho).1
  obtain rfl : o = atO l i := by have := (atO_get hil).symm.trans ho; cases this; rfl
  have hclo2 : Closed l L2 := fun j o' hj hLj e he hb => by
    rw [hL2] at hLj ⊢
    rcases Bool.or_eq_true_iff.1 hLj with h6 | h6
    · rw [h.clo j o' hj h6 e he hb]; rfl
    · obtain rfl : j = i := by simpa using h6
      rw [ho] at hj; cases hj
      rw [hpre e he hb]; rfl
  by_cases hd : i ∈ done
  · obtain ⟨w1, w2, D, w3, w4, w5, w6, w7, w8⟩ := h.wait i hd hi
    refine (w7 _ (agree_sets hlt hcl w3 h.clo ho w4 hi w6 hpre)).mono ?_
    rintro G' H' ⟨rfl, rfl⟩
    refine ⟨done, rest, rs, ⟨h.len, fun k hk => ?_, hclo2, h.dclo, h.ord, h.walk, fun j hj hLj => h.wait j hj ?_⟩, hs, next_set hlt hcl h.clo ho hi hpre rfl hL2⟩
    · rw [hL2] at hk
      rcases Bool.or_eq_true_iff.1 hk with h6 | h6
      · exact h.sub k h6
      · obtain rfl : k = i := by simpa using h6
        exact hd
    · rw [hL2] at hLj
      exact (Bool.or_eq_false_iff.1 hLj).1
  · -- the next effect
    have hrest : i ∈ rest := (ordOK_cover h.ord i hil).resolve_left hd
    obtain ⟨e, rest', rfl⟩ : ∃ e r, rest = e :: r := by cases rest with | nil => simp at hrest | cons e r => exact ⟨e, r, rfl⟩
    have hef := hs e rest' rfl
    obtain ⟨hp, hne, hel, h4, h5⟩ := ordOK_cons h.ord
    have hbefore := closed_preds h.clo hlt (i + 1) i (by omega) _ ho hpre
    obtain rfl : i = e := by
      rcases List.mem_cons.1 hrest with h | hr
      · exact h
      · exact (hne (h.sub e (hbefore e ((h4 hef).1 i hr)))).elim
    have hmi : mem done i = false := by rw [← Bool.not_eq_true, mem_spec]; exact hne
    have hpre' : ∀ e ∈ (atO l i).after.toList, Region.binds .any e = true → mem done e.on = true := fun e he hb => mem_spec.2 (hp _ (preds_direct ho he hb))
    have hw := h.walk
    rw [List.map_cons] at hw
    obtain ⟨_, hx⟩ := (stepD hw).resolve_right fun ⟨hx, _⟩ => by unfold effAt at hef; rw [hef] at hx; cases hx
    refine (hx _ (agree_sets hlt hcl h.dclo h.clo ho hmi hi hpre' hpre)).mono ?_
    rintro G' H' ⟨r, rfl, hv⟩
    have hset : ∀ D : Nat → Bool, (∀ k, D k = true → k ∈ done) → FL l (rs.set i r) D F l.length = FL l rs D F l.length := fun D hD => FL_set (by
      cases e : D i with
      | false => rfl
      | true => exact (hne (hD i e)).elim) _
    have hget : (rs.set i r).getD i .any = r := by simp [h.len, hil]
    have hgn : ∀ j, j ≠ i → (rs.set i r).getD j .any = rs.getD j .any := fun j hj => by simp [List.getElem?_set, Ne.symm hj]
    have hn1 := next_set (rs := rs.set i r) (F := F) hlt hcl h.dclo ho hmi hpre' hget (L2 := mem (i :: done)) (fun k => by rw [show mem (i :: done) k = (fun k => mem (i :: done) k) k from rfl, mem_cons_eq])
    rw [hset _ (fun k hk => mem_spec.1 hk)] at hn1
    have hn2 := next_set (rs := rs.set i r) (F := F) hlt hcl h.clo ho hi hpre hget hL2
    rw [hset _ h.sub] at hn2
    have hinv : Inv P l K F L2 (i :: done) rest' (rs.set i r) H' := by
      refine ⟨by simpa using h.len, fun k hk => ?_, hclo2, dclo_cons hok hil h.dclo hp, h5, by rw [← hn1]; exact hv, fun j hj hLj => ?_⟩
      · rw [hL2] at hk
        rcases Bool.or_eq_true_iff.1 hk with h6 | h6
        · exact List.mem_cons_of_mem _ (h.sub k h6)
        · obtain rfl : k = i := by simpa using h6
          simp
      · rw [hL2] at hLj
        obtain ⟨hLj, hji⟩ := Bool.or_eq_false_iff.1 hLj
        have hji : j ≠ i := by simpa using hji
        have hj : j ∈ done := by rcases List.mem_cons.1 hj with e | h; exact (hji e).elim; exact h
        obtain ⟨w1, w2, D, w3, w4, w5, w6, w7, w8⟩ := h.wait j hj hLj
        have hnd : hdepO (atO l j) = false := by
          rcases (h4 hef).2 j hj with h6 | h6 | h6
          · rw [w1] at h6; cases h6
          · exact h6
          · have := hbefore j h6; rw [hLj] at this; cases this
        exact ⟨w1, w2, D, w3, w4, fun k hk => List.mem_cons_of_mem _ (w5 k hk), w6, by rw [hset _ w5, hgn j hji]; exact w8 hnd H', fun hd H'' => by rw [hset _ w5, hgn j hji]; exact w8 hd H''⟩
    obtain ⟨d', r', rs', g1, g2, g3⟩ := absorb hok rest' hinv
    exact ⟨d', r', rs', g1, g2, by rw [g3, hn2]⟩

theorem any_run2 {Q : Exit → List AV → Hp → Prop} (hQ : ∀ F H, K F H → Q .normal F H) {H0 : Hp} (w0 : World) :
    ∀ (fuel : Nat) (listed : Array Bool), listed.size = l.length → (List.range l.length).countP (fun i => !listed.getD i false) = fuel →
      ∀ H done rest rs w tm, Inv P l K F (fun i => listed.getD i false) done rest rs H → (∀ i r, rest = i :: r → effAt l i = true) →
        RelW w H → RelF w H (FL l rs (fun i => listed.getD i false) F l.length) tm → Ext w0 H0 w H → wpAny P .any l.toArray (Post Q w0 H0) fuel listed ⟨tm, []⟩ w := by
  obtain ⟨hlt, hcl⟩ := draw_spec hok
  have fin : ∀ (listed : Array Bool) H done rest rs, Inv P l K F (fun i => listed.getD i false) done rest rs H → (∀ i, i < l.length → listed.getD i false = true) → ∀ w tm, RelW w H → RelF w H (FL l rs (fun i => listed.getD i false) F l.length) tm → Ext w0 H0 w H → Post Q w0 H0 .normal ⟨tm, []⟩ w := by
    intro listed H done rest rs h hall w tm h1 h2 h3
    obtain rfl : rest = [] := by
      cases rest with
      | nil => rfl
      | cons i r =>
        obtain ⟨_, hni, hil, _⟩ := ordOK_cons h.ord
        exact (hni (h.sub i (hall i hil))).elim
    have e : FL l rs (fun i => listed.getD i false) F l.length = FL l rs (mem done) F l.length := by
      have gen : ∀ m, m ≤ l.length → FL l rs (fun i => listed.getD i false) F m = FL l rs (mem done) F m := by
        intro m
        induction m with
        | zero => intro _; rfl
        | succ m ih =>
          intro hm
          have h4 := hall m (by omega)
          have h5 : mem done m = true := mem_spec.2 (h.sub m h4)
          rw [FL, FL, ih (by omega), h4, h5]
      exact gen _ (Nat.le_refl _)
    rw [e] at h2
    exact ⟨tm, _, H, rfl, hQ _ _ h.walk, h1, h2, h3⟩
  intro fuel
  induction fuel with
  | zero =>
    intro listed hsz hcnt H done rest rs w tm h _ h1 h2 h3
    have hall : ∀ i, i < l.length → listed.getD i false = true := fun i hi => by
      have := (List.countP_eq_zero.1 hcnt) i (List.mem_range.2 hi)
      simpa using this
    refine ⟨?_, fin listed H done rest rs h hall w tm h1 h2 h3⟩
    rw [List.eq_nil_iff_forall_not_mem]
    intro j hj
    obtain ⟨hj0, o, ho, _⟩ := mem_ready.1 hj
    have hjl : j < l.length := by have := (Array.getElem?_eq_some_iff.1 ho).1; simpa using this
    have := hall j hjl
    simp [hsz, hjl] at this hj0
    rw [this] at hj0; cases hj0
  | succ fuel ih =>
    intro listed hsz hcnt H done rest rs w tm h hs h1 h2 h3
    refine ⟨fun hnil => ?_, fun i hi => ?_⟩
    · exfalso
      have hex : ∃ i, i < l.length ∧ listed.getD i false = false := by
        have hpos : 0 < (List.range l.length).countP (fun i => !listed.getD i false) := by omega
        obtain ⟨i, hi, hp⟩ := List.countP_pos_iff.1 hpos
        exact ⟨i, List.mem_range.1 hi, by simpa using hp⟩
      obtain ⟨i, ⟨hi, hf⟩, hleast⟩ := exists_least hex
      have ho : l[i]? = some l[i] := List.getElem?_eq_getElem hi
      have : i ∈ Region.ready .any l.toArray listed := mem_ready.2 ⟨by simp [hsz, hi] at hf ⊢; exact hf, l[i], by simp [hi], fun e he hb => by
        have h4 := hlt i _ ho e (by simpa using he) hb
        cases hv : listed.getD e.on false with
        | true => rfl
        | false => have := hleast e.on ⟨by omega, hv⟩; omega⟩
      rw [hnil] at this
      cases this
    · obtain ⟨hi0, o, ho, hpre⟩ := mem_ready.1 hi
      have ho' : l[i]? = some o := by simpa using ho
      have hil := (List.getElem?_eq_some_iff.1 ho').1
      have hif : listed.getD i false = false := by simp [hsz, hil] at hi0 ⊢; exact hi0
      have hpre' : ∀ e ∈ o.after.toList, Region.binds .any e = true → listed.getD e.on false = true := fun e he hb => hpre e (by simpa using he) hb
      have hL' : ∀ k, (listed.setIfInBounds i true).getD k false = (listed.getD k false || k == i) := fun k => by
        by_cases hk : k = i
        · subst hk; simp [hsz, hil]
        · simp [Array.getElem?_setIfInBounds_ne (Ne.symm hk), hk]
      have hop := inv_step hok h hs ho' hif hpre' (L2 := fun k => (listed.setIfInBounds i true).getD k false) hL'
      have := hop w tm (Post Q w0 H0) (wpAny P .any l.toArray (Post Q w0 H0) fuel (listed.setIfInBounds i true)) h1 h2 (by
        rintro tm' w' F' H' ⟨d', r', rs', k1, k2, rfl⟩ g1 g2 g3
        refine ih (listed.setIfInBounds i true) (by simpa using hsz) ?_ H' d' r' rs' w' tm' k1 k2 g1 g2 (h3.trans g3)
        have : ∀ (n : Nat), i < n → (List.range n).countP (fun k => !(listed.setIfInBounds i true).getD k false) + 1 = (List.range n).countP (fun k => !listed.getD k false) := by
          intro n
          induction n with
          | zero => intro h; omega
          | succ n ihn =>
            intro h
            rw [List.range_succ, List.countP_append, List.countP_append]
            by_cases hn : n = i
            · subst hn
              have : (List.range n).countP (fun k => !(listed.setIfInBounds n true).getD k false) = (List.range n).countP (fun k => !listed.getD k false) := by
                refine List.countP_congr fun k hk => ?_
                rw [hL']
                have : k ≠ n := by have := List.mem_range.1 hk; omega
                simp [this]
              rw [this]
              simp only [List.countP_singleton, hL', hif]
              simp
            · rw [← ihn (by omega)]
              simp only [List.countP_singleton, hL']
              have : (n == i) = false := by simpa using hn
              rw [this, Bool.or_false]
              omega
        have := this l.length hil
        omega)
      unfold wpOp
      rw [ho]
      exact this
end

/-- A region that leaves its order open, walked in an order of one's own. -/
theorem awp_region_eff {id : Nat} {l : List Oper} (ord : List Nat) {F : List AV} {Q : Exit → List AV → Hp → Prop} (hm : P.follows .mixedOrders = true) (hok : effOK l ord = true) (h : vclD P l.toArray (Q .normal) (ord.map (atO l)) F H) : AWP P (.region id l.toArray true) Q F H := fun w tm h1 h2 => by
  simp only [effOK, Bool.and_eq_true] at hok
  obtain ⟨hdr, hord⟩ := hok
  have hz : ∀ i, (Array.replicate l.toArray.size false).getD i false = false := fun i => by
    by_cases hi : i < l.length <;> simp [Array.getElem?_replicate, hi]
  refine wp_region_any hm ?_
  have e0 : ∀ (rs : List AV) (L : Nat → Bool), (∀ i, L i = false) → FL l rs L F l.length = F := fun rs L hL => by
    have gen : ∀ m, FL l rs L F m = F := by
      intro m
      induction m with
      | zero => rfl
      | succ m ih => rw [FL, hL, if_neg (by simp), ih]
    exact gen _
  have hinv : Inv P l (Q .normal) F (fun i => (Array.replicate l.toArray.size false).getD i false) [] ord (List.replicate l.length .any) H :=
    ⟨by simp, (fun i hi => by have := (hz i).symm.trans hi; cases this), (fun j o _ hj => by have := (hz j).symm.trans hj; cases this), (fun j o _ hj => by simp [mem] at hj), hord,
      (by rw [e0 _ _ (fun i => by simp [mem])]; exact h), (fun i hi => by simp at hi)⟩
  obtain ⟨d', r', rs', k1, k2, k3⟩ := absorb hdr ord hinv
  exact any_run2 hdr (fun _ _ h => h) w l.toArray.size (Array.replicate l.toArray.size false) (by simp) (by
    rw [List.countP_eq_length.2 (fun i _ => by rw [hz]; rfl)]
    simp) H d' r' rs' w.drew tm k1 k2 h1.drew (by rw [e0 _ _ hz]; exact h2.ext (Ext.drew w H)) (Ext.drew w H)
end
section
variable {P : Program} {ev : Operand → AV} {H : Hp} {ty : TypeId} {K : AV → Hp → Prop}
@[go_sem] theorem vcD_move (x : Operand) : vcD P ev H ty K (.move x) = vc P ev H ty K (.move x) := (rfl)
@[go_sem] theorem vcD_assign (x : Operand) : vcD P ev H ty K (.assign x) = vc P ev H ty K (.assign x) := (rfl)
@[go_sem] theorem vcD_pick (c a b : Operand) : vcD P ev H ty K (.pick c a b) = vc P ev H ty K (.pick c a b) := (rfl)
@[go_sem] theorem vcD_nilCheck (x : Operand) : vcD P ev H ty K (.nilCheck x) = vc P ev H ty K (.nilCheck x) := (rfl)
@[go_sem] theorem vcD_unOp (op : UnOp) (t : TypeId) (x : Operand) : vcD P ev H ty K (.unOp op t x) = vc P ev H ty K (.unOp op t x) := (rfl)
@[go_sem] theorem vcD_load (t : TypeId) (x : Operand) : vcD P ev H ty K (.load t x) = vc P ev H ty K (.load t x) := (rfl)
@[go_sem] theorem vcD_fieldAddr (t : TypeId) (x : Operand) (f : Nat) : vcD P ev H ty K (.fieldAddr t x f) = vc P ev H ty K (.fieldAddr t x f) := (rfl)
@[go_sem] theorem vcD_field (t : TypeId) (x : Operand) (f : Nat) : vcD P ev H ty K (.field t x f) = vc P ev H ty K (.field t x f) := (rfl)
@[go_sem] theorem vcD_indexAddr (t : TypeId) (x i : Operand) : vcD P ev H ty K (.indexAddr t x i) = vc P ev H ty K (.indexAddr t x i) := (rfl)
@[go_sem] theorem vcD_index (t : TypeId) (x i : Operand) : vcD P ev H ty K (.index t x i) = vc P ev H ty K (.index t x i) := (rfl)
@[go_sem] theorem vcD_extract (x : Operand) (i : Nat) : vcD P ev H ty K (.extract x i) = vc P ev H ty K (.extract x i) := (rfl)
@[go_sem] theorem vcD_slice (t : TypeId) (a : Operand) (lo hi mx : Option Operand) : vcD P ev H ty K (.slice t a lo hi mx) = vc P ev H ty K (.slice t a lo hi mx) := (rfl)
@[go_sem] theorem vcD_makeFunc (fn : Fn) (a b : Array Operand) : vcD P ev H ty K (.makeFunc fn a b) = vc P ev H ty K (.makeFunc fn a b) := (rfl)
@[go_sem] theorem vcD_makeIface (t : TypeId) (x : Operand) : vcD P ev H ty K (.makeInterface t x) = vc P ev H ty K (.makeInterface t x) := (rfl)
@[go_sem] theorem vcD_convert (s d : TypeId) (x : Operand) : vcD P ev H ty K (.convert s d x) = vc P ev H ty K (.convert s d x) := (rfl)
@[go_sem] theorem vcD_build (t : TypeId) (ps : Array (Nat × Operand)) : vcD P ev H ty K (.build t ps) = vc P ev H ty K (.build t ps) := (rfl)
@[go_sem] theorem vcD_len (as : Array Operand) (ts : Array TypeId) : vcD P ev H ty K (.call ⟨.builtin .len, as, ts⟩) = vc P ev H ty K (.call ⟨.builtin .len, as, ts⟩) := (rfl)
@[go_sem] theorem vcD_cap (as : Array Operand) (ts : Array TypeId) : vcD P ev H ty K (.call ⟨.builtin .cap, as, ts⟩) = vc P ev H ty K (.call ⟨.builtin .cap, as, ts⟩) := (rfl)
@[go_sem] theorem vcD_max (as : Array Operand) (ts : Array TypeId) : vcD P ev H ty K (.call ⟨.builtin .max, as, ts⟩) = vc P ev H ty K (.call ⟨.builtin .max, as, ts⟩) := (rfl)
@[go_sem] theorem vcD_min (as : Array Operand) (ts : Array TypeId) : vcD P ev H ty K (.call ⟨.builtin .min, as, ts⟩) = vc P ev H ty K (.call ⟨.builtin .min, as, ts⟩) := (rfl)
@[go_sem] theorem vcD_add (t : TypeId) (x y : Operand) (t' : TypeId) : vcD P ev H ty K (.binOp .add t x y t') = vc P ev H ty K (.binOp .add t x y t') := (rfl)
@[go_sem] theorem vcD_sub (t : TypeId) (x y : Operand) (t' : TypeId) : vcD P ev H ty K (.binOp .sub t x y t') = vc P ev H ty K (.binOp .sub t x y t') := (rfl)
@[go_sem] theorem vcD_mul (t : TypeId) (x y : Operand) (t' : TypeId) : vcD P ev H ty K (.binOp .mul t x y t') = vc P ev H ty K (.binOp .mul t x y t') := (rfl)
@[go_sem] theorem vcD_quo (t : TypeId) (x y : Operand) (t' : TypeId) : vcD P ev H ty K (.binOp .quo t x y t') = vc P ev H ty K (.binOp .quo t x y t') := (rfl)
@[go_sem] theorem vcD_rem (t : TypeId) (x y : Operand) (t' : TypeId) : vcD P ev H ty K (.binOp .rem t x y t') = vc P ev H ty K (.binOp .rem t x y t') := (rfl)
@[go_sem] theorem vcD_and (t : TypeId) (x y : Operand) (t' : TypeId) : vcD P ev H ty K (.binOp .and t x y t') = vc P ev H ty K (.binOp .and t x y t') := (rfl)
@[go_sem] theorem vcD_or (t : TypeId) (x y : Operand) (t' : TypeId) : vcD P ev H ty K (.binOp .or t x y t') = vc P ev H ty K (.binOp .or t x y t') := (rfl)
@[go_sem] theorem vcD_xor (t : TypeId) (x y : Operand) (t' : TypeId) : vcD P ev H ty K (.binOp .xor t x y t') = vc P ev H ty K (.binOp .xor t x y t') := (rfl)
@[go_sem] theorem vcD_andNot (t : TypeId) (x y : Operand) (t' : TypeId) : vcD P ev H ty K (.binOp .andNot t x y t') = vc P ev H ty K (.binOp .andNot t x y t') := (rfl)
@[go_sem] theorem vcD_shl (t : TypeId) (x y : Operand) (t' : TypeId) : vcD P ev H ty K (.binOp .shl t x y t') = vc P ev H ty K (.binOp .shl t x y t') := (rfl)
@[go_sem] theorem vcD_shr (t : TypeId) (x y : Operand) (t' : TypeId) : vcD P ev H ty K (.binOp .shr t x y t') = vc P ev H ty K (.binOp .shr t x y t') := (rfl)
@[go_sem] theorem vcD_lss (t : TypeId) (x y : Operand) (t' : TypeId) : vcD P ev H ty K (.binOp .lss t x y t') = vc P ev H ty K (.binOp .lss t x y t') := (rfl)
@[go_sem] theorem vcD_leq (t : TypeId) (x y : Operand) (t' : TypeId) : vcD P ev H ty K (.binOp .leq t x y t') = vc P ev H ty K (.binOp .leq t x y t') := (rfl)
@[go_sem] theorem vcD_gtr (t : TypeId) (x y : Operand) (t' : TypeId) : vcD P ev H ty K (.binOp .gtr t x y t') = vc P ev H ty K (.binOp .gtr t x y t') := (rfl)
@[go_sem] theorem vcD_geq (t : TypeId) (x y : Operand) (t' : TypeId) : vcD P ev H ty K (.binOp .geq t x y t') = vc P ev H ty K (.binOp .geq t x y t') := (rfl)
@[go_sem] theorem vcD_eql (t : TypeId) (x y : Operand) (t' : TypeId) : vcD P ev H ty K (.binOp .eql t x y t') = ((qBin P .eql t (ev x) (ev y)).1 ∧ K (qBin P .eql t (ev x) (ev y)).2 H) := by simp [vcD, eqOp, vq]
@[go_sem] theorem vcD_neq (t : TypeId) (x y : Operand) (t' : TypeId) : vcD P ev H ty K (.binOp .neq t x y t') = ((qBin P .neq t (ev x) (ev y)).1 ∧ K (qBin P .neq t (ev x) (ev y)).2 H) := by simp [vcD, eqOp, vq]
@[go_sem] theorem vcD_box (t : TypeId) (x : Operand) : vcD P ev H ty K (.box t x) = vc P ev H ty K (.box t x) := (rfl)
@[go_sem] theorem vcD_alloc (t : TypeId) : vcD P ev H ty K (.alloc t) = vc P ev H ty K (.alloc t) := (rfl)
@[go_sem] theorem vcD_store (t : TypeId) (a x : Operand) : vcD P ev H ty K (.store t a x) = vc P ev H ty K (.store t a x) := (rfl)
@[go_sem] theorem vcD_buildSlice (t : TypeId) (n : Nat) (ps : Array (Nat × Operand)) : vcD P ev H ty K (.buildSlice t n ps) = vc P ev H ty K (.buildSlice t n ps) := (rfl)
@[go_sem] theorem vcD_call (f : Operand) (as : Array Operand) (ts : Array TypeId) : vcD P ev H ty K (.call ⟨.value f, as, ts⟩) = vc P ev H ty K (.call ⟨.value f, as, ts⟩) := (rfl)
@[go_sem] theorem vcD_append (t : TypeId) (a x : Operand) : vcD P ev H ty K (.call ⟨.builtin .append, #[a, x], #[t, t]⟩) = vc P ev H ty K (.call ⟨.builtin .append, #[a, x], #[t, t]⟩) := (rfl)
@[go_sem] theorem vcD_appendTo (t t' : TypeId) (a x : Operand) : vcD P ev H ty K (.call ⟨.builtin .append, #[a, x], #[t, t']⟩) = vc P ev H ty K (.call ⟨.builtin .append, #[a, x], #[t, t']⟩) := (rfl)
@[go_sem] theorem vcD_copy (as : Array Operand) (ts : Array TypeId) : vcD P ev H ty K (.call ⟨.builtin .copy, as, ts⟩) = vc P ev H ty K (.call ⟨.builtin .copy, as, ts⟩) := (rfl)
@[go_sem] theorem vcD_clear (as : Array Operand) (ts : Array TypeId) : vcD P ev H ty K (.call ⟨.builtin .clear, as, ts⟩) = vc P ev H ty K (.call ⟨.builtin .clear, as, ts⟩) := (rfl)
end
@[go_sem] theorem vclD_nil {P : Program} {ops : Array Oper} {K : List AV → Hp → Prop} (F : List AV) (H : Hp) : vclD P ops K [] F H = K F H := (rfl)
@[go_sem] theorem vclD_cons {P : Program} {ops : Array Oper} {K : List AV → Hp → Prop} (dst : Option Tmp) (op : Op) (ty : TypeId) (pos : String) (after : Array Edge) (rest : List Oper) (F : List AV) (H : Hp) :
    vclD P ops K (⟨dst, op, ty, pos, after, none⟩ :: rest) F H = vcD P (evA F) H ty (AP (fun r H' => vclD P ops K rest (putA F dst r) H') .mk) op := rfl
@[go_sem] theorem vclD_guard {P : Program} {ops : Array Oper} {K : List AV → Hp → Prop} (dst : Option Tmp) (op : Op) (ty : TypeId) (pos : String) (after : Array Edge) (j : Nat) (want : Bool) (rest : List Oper) (F : List AV) (H : Hp) :
    vclD P ops K (⟨dst, op, ty, pos, after, some (j, want)⟩ :: rest) F H = vGuard (guardB ops F j want) (fun b => (isCallV op || guardQuiet op) = true ∧ vcG P F H b (AP1 (fun r => vclD P ops K rest (putA F dst r) H) .mk) op) .mk := by
  unfold vGuard
  rfl
attribute [go_sem] atO
end Go.Fc

/- A region that leaves its order open, all of whose operations only read, reckon, or call what changes nothing: whatever the order, it comes to what the text's order gives. No conditions. -/
import Derived.Test.YtemapkbfpkdddaaFcK
import Derived.Orders
set_option linter.all false
namespace Go.Fc
open Go

section
variable {P : Program} {ops : Array Oper} {H : Hp}

/-- Two frames alike at the slots that an operation looks at. -/
def Agree (ops : Array Oper) (o : Oper) (F G : List AV) : Prop := (∀ x ∈ o.op.operands.toList, evA G x = evA F x) ∧ ∀ j b, o.guard = some (j, b) → guardB ops G j b = guardB ops F j b
/-- An operation that changes nothing that is owned, and gives r, at whatever frame that is alike where it looks. -/
def QV (P : Program) (ops : Array Oper) (o : Oper) (F : List AV) (H : Hp) (r : AV) : Prop := ∀ G, Agree ops o F G → AOp P ops o G H fun F' H' => F' = putA G o.dst r ∧ H' = H

theorem vCall_mono {f : AV} {args : List AV} {K K' : AV → Hp → Prop} (h : vCall P f args H K) (hk : ∀ r H, K r H → K' r H) : vCall P f args H K' := by
  unfold vCall at *
  split at h
  · rcases h with h | h
    · exact .inl ⟨h.1, h.2.mono hk⟩
    · exact .inr fun w vs h1 h2 => by
        obtain ⟨v, w', r, H', e, k, g⟩ := h w vs h1 h2
        exact ⟨v, w', r, H', e, hk _ _ k, g⟩
  · exact h.elim
theorem vLit_mono {t : TypeId} {n : Nat} {parts : List (Nat × AV)} {K K' : AV → Hp → Prop} (h : vLit P H t n parts K) (hk : ∀ r, K r H → K' r H) : vLit P H t n parts K' := by
  unfold vLit at *
  split at h
  · exact ⟨h.1, hk _ h.2⟩
  · exact h.elim
def eqOp : Op → Bool
  | .binOp .eql .. => true
  | .binOp .neq .. => true
  | _ => false
theorem aop_quiet {o : Oper} {F : List AV} {K : List AV → Hp → Prop} (hg : o.guard = none) (hq : (vq P (evA F) H o.op).1) (hk : K (putA F o.dst (vq P (evA F) H o.op).2) H) : AOp P ops o F H K :=
  aop_val hg (aval_vq (K := fun r H' => K (putA F o.dst r) H') hq hk)

theorem qv_quiet {o : Oper} {F : List AV} (hg : o.guard = none) (hq : (vq P (evA F) H o.op).1) : QV P ops o F H (vq P (evA F) H o.op).2 := fun G hG => by
  have e : vq P (evA G) H o.op = vq P (evA F) H o.op := vq_congr _ hG.1
  exact aop_quiet hg (by rw [e]; exact hq) ⟨by rw [e], rfl⟩
theorem qv_call {dst : Option Tmp} {f : Operand} {args : Array Operand} {ts : Array TypeId} {ty : TypeId} {pos : String} {after : Array Edge} {F : List AV} {r : AV} (h : vCall P (evA F f) (args.toList.map (evA F)) H fun r' H' => r' = r ∧ H' = H) :
    QV P ops ⟨dst, .call ⟨.value f, args, ts⟩, ty, pos, after, none⟩ F H r := fun G hG => by
  refine aop_vc (K := fun F' H' => F' = putA G dst r ∧ H' = H) rfl ?_
  show vCall P (evA G f) (args.toList.map (evA G)) H _
  rw [hG.1 f (by simp [Op.operands, Call.operands]), List.map_congr_left (g := evA F) (fun x hx => hG.1 x (by simp [Op.operands, Call.operands] at hx ⊢; exact .inr hx))]
  exact vCall_mono h fun r' H' ⟨e1, e2⟩ => ⟨by rw [e1], e2⟩
theorem qv_lit {dst : Option Tmp} {t : TypeId} {n : Nat} {parts : Array (Nat × Operand)} {ty : TypeId} {pos : String} {after : Array Edge} {F : List AV} {r : AV} (h : vLit P H t n (parts.toList.map fun p => (p.1, evA F p.2)) fun r' H' => r' = r ∧ H' = H) :
    QV P ops ⟨dst, .buildSlice t n parts, ty, pos, after, none⟩ F H r := fun G hG => by
  refine aop_vc (K := fun F' H' => F' = putA G dst r ∧ H' = H) rfl ?_
  show vLit P H t n (parts.toList.map fun p => (p.1, evA G p.2)) (fun r_1 H' => putA G dst r_1 = putA G dst r ∧ H' = H)
  rw [List.map_congr_left (g := fun p => (p.1, evA F p.2)) (fun x hx => by rw [hG.1 x.2 (by simp [Op.operands] at hx ⊢; exact ⟨_, hx⟩)])]
  exact vLit_mono h fun r' ⟨e1, e2⟩ => ⟨by rw [e1], e2⟩

theorem okG_congr {F G : List AV} (o : Op) (h : ∀ x ∈ o.operands.toList, evA G x = evA F x) : okG G o = okG F o := by
  unfold okG
  rw [Bool.eq_iff_iff, List.all_eq_true, List.all_eq_true]
  constructor <;> intro hh x hx <;> have := hh x hx <;> rw [h x hx] at * <;> exact this
def isPick : Op → Bool
  | .pick .. => true
  | _ => false
theorem vcG_other {F : List AV} {g : Bool} {K : AV → Prop} (o : Op) (h : isCallV o = false) (hp : isPick o = false) : vcG P F H g K o = if guardQuiet o then (g = true → okG F o = true ∧ (vq P (evG F) H o).1) ∧ K (.gd g (vq P (evG F) H o).2) else False := by
  cases o
  case call c =>
    obtain ⟨callee, args, ts⟩ := c
    cases callee
    case value f => cases h
    all_goals rfl
  case pick => cases hp
  all_goals rfl
/-- What a guarded operation gives, at whatever frame that is alike where it looks. -/
theorem vcG_elim {F : List AV} {g : Bool} {K : AV → Prop} {o : Op} (h : vcG P F H g K o) : ∃ r, K (.gd g r) ∧ ∀ (G : List AV) (K' : AV → Prop), (∀ x ∈ o.operands.toList, evA G x = evA F x) → K' (.gd g r) → vcG P G H g K' o := by
  cases hc : isCallV o with
  | false =>
    by_cases hp : isPick o = true
    · cases o <;> try cases hp
      rename_i c a b
      refine ⟨_, h.2, fun G K' hG hk => ?_⟩
      have he : ∀ x ∈ (Op.pick c a b).operands.toList, evG G x = evG F x := fun x hx => by unfold evG; rw [hG x hx]
      show (g = true → (unG (evA G c)).1 = true ∧ (qPick (evG G c) (evA G a) (evA G b)).1) ∧ K' (.gd g (qPick (evG G c) (evA G a) (evA G b)).2)
      rw [hG c (by simp [Op.operands]), hG a (by simp [Op.operands]), hG b (by simp [Op.operands]), he c (by simp [Op.operands])]
      exact ⟨h.1, hk⟩
    have hp : isPick o = false := by simpa using hp
    rw [vcG_other o hc hp] at h
    split at h
    · rename_i hq
      refine ⟨_, h.2, fun G K' hG hk => ?_⟩
      have he : ∀ x ∈ o.operands.toList, evG G x = evG F x := fun x hx => by unfold evG; rw [hG x hx]
      rw [vcG_other o hc hp, if_pos hq, vq_congr _ he, okG_congr o hG]
      exact ⟨h.1, hk⟩
    · exact h.elim
  | true =>
    cases o <;> try cases hc
    rename_i c
    obtain ⟨callee, args, ts⟩ := c
    cases callee <;> try cases hc
    rename_i f
    obtain ⟨r, h1, h2⟩ := h
    refine ⟨r, h2, fun G K' hG hk => ⟨r, fun hg => ⟨okG_congr _ hG ▸ (h1 hg).1, ?_⟩, hk⟩⟩
    have he : ∀ x ∈ (Op.call ⟨.value f, args, ts⟩).operands.toList, evG G x = evG F x := fun x hx => by unfold evG; rw [hG x hx]
    rw [he f (by simp [Op.operands, Call.operands]), List.map_congr_left (g := evG F) (fun x hx => he x (by simp [Op.operands, Call.operands] at hx ⊢; exact .inr hx))]
    exact (h1 hg).2
theorem qv_guard {o : Oper} {F : List AV} {j : Nat} {want b : Bool} {r : AV} (hg : o.guard = some (j, want)) (hb : guardB ops F j want = some b) (hq : (isCallV o.op || guardQuiet o.op) = true) (h : vcG P F H b (fun r' => r' = r) o.op) : QV P ops o F H r := fun G hG => by
  have hv : vcl P ops (fun F' H' => F' = putA G o.dst r ∧ H' = H) [o] G H := by
    simp only [vcl, hg, hG.2 j want hg, hb, hq, if_true]
    obtain ⟨r', h1, h2⟩ := vcG_elim h
    exact h2 G _ hG.1 ⟨by rw [h1], trivial⟩
  have hs := vcl_sound [o] G H hv
  intro w tm Q next h1 h2 hn
  have := hs w tm (fun e a w => match e with | .normal => next a w | e => Q e a w) h1 h2 hn
  simp only [wpList] at this
  unfold wpOp1
  split
  · rename_i hw
    rw [if_pos hw] at this
    rcases this with h | ⟨ha, hl⟩
    · refine .inl ?_
      unfold Oper.wp at *
      generalize (execOp (Act.mk tm []).eval o).run P w = res at *
      cases res with
      | ok n w' =>
        cases n <;> simp only [Oper.upon] at h ⊢
        case enter f args => exact Calls.mono h fun e w'' he => by cases e <;> exact he
        all_goals exact h
      | halt x w' => cases x <;> simp only [Oper.upon] at h ⊢; exact h
    · exact .inr ⟨ha, hl⟩
  · rename_i hw
    rw [if_neg hw] at this
    exact this

/-- Operations in the text's order, each of which changes nothing that is owned. -/
def vclQ (P : Program) (ops : Array Oper) (H : Hp) (K : List AV → Prop) : List Oper → List AV → Prop
  | [], F => K F
  | o :: rest, F => match o.guard with
    | none => match o.op with
      | .call { callee := .value f, args, .. } => ∃ r, (vCall P (evA F f) (args.toList.map (evA F)) H fun r' H' => r' = r ∧ H' = H) ∧ vclQ P ops H K rest (putA F o.dst r)
      | .buildSlice t n parts => vLit P H t n (parts.toList.map fun p => (p.1, evA F p.2)) fun r _ => vclQ P ops H K rest (putA F o.dst r)
      | op => (vq P (evA F) H op).1 ∧ vclQ P ops H K rest (putA F o.dst (vq P (evA F) H op).2)
    | some (j, want) => match guardB ops F j want with
      | some b => (isCallV o.op || guardQuiet o.op) = true ∧ vcG P F H b (fun r => vclQ P ops H K rest (putA F o.dst r)) o.op
      | none => False

/-- The values that the operations give, and the frames behind each, in the text's order. -/
def QRun (P : Program) (ops : Array Oper) (H : Hp) (K : List AV → Prop) : List Oper → List AV → List AV → Prop
  | [], F, rs => rs = [] ∧ K F
  | o :: rest, F, rs => ∃ r rs', rs = r :: rs' ∧ QV P ops o F H r ∧ QRun P ops H K rest (putA F o.dst r) rs'

theorem qrun_of {K : List AV → Prop} : ∀ (l : List Oper) (F : List AV), vclQ P ops H K l F → ∃ rs, QRun P ops H K l F rs
  | [], F, h => ⟨[], rfl, h⟩
  | o :: rest, F, h => by
    have mk : ∀ r, QV P ops o F H r → vclQ P ops H K rest (putA F o.dst r) → ∃ rs, QRun P ops H K (o :: rest) F rs := fun r h1 h2 => by
      obtain ⟨rs, h3⟩ := qrun_of rest _ h2
      exact ⟨r :: rs, r, rs, rfl, h1, h3⟩
    obtain ⟨dst, op, ty, pos, after, guard⟩ := o
    cases guard with
    | none =>
      unfold vclQ at h
      simp only at h
      split at h
      · obtain ⟨r, h1, h2⟩ := h
        exact mk r (qv_call h1) h2
      · rename_i t n parts
        unfold vLit at h
        split at h
        · rename_i sz hsz
          exact mk _ (qv_lit (by unfold vLit; rw [hsz]; exact ⟨h.1, rfl, rfl⟩)) h.2
        · exact h.elim
      · exact mk _ (qv_quiet rfl h.1) h.2
    | some g =>
      obtain ⟨j, want⟩ := g
      unfold vclQ at h
      simp only at h
      split at h
      · rename_i b hb
        obtain ⟨hq, hv⟩ := h
        obtain ⟨r, h1, h2⟩ := vcG_elim hv
        exact mk _ (qv_guard rfl hb hq (r := .gd b r) (h2 F _ (fun _ _ => rfl) rfl)) h1
      · exact h.elim

-- the order

/-- Frames behind those of the first m operations that L lets in. -/
def FL (os : List Oper) (rs : List AV) (L : Nat → Bool) (F : List AV) : Nat → List AV
  | 0 => F
  | m + 1 => if L m then putA (FL os rs L F m) ((os[m]?).bind (·.dst)) (rs.getD m .any) else FL os rs L F m
/-- What a slot holds there. -/
def valL (os : List Oper) (rs : List AV) (L : Nat → Bool) (F : List AV) (s : Nat) : Nat → AV
  | 0 => F.getD s .any
  | m + 1 => if L m = true ∧ (os[m]?).bind (·.dst) = some s then rs.getD m .any else valL os rs L F s m

theorem FL_length (os : List Oper) (rs : List AV) (L : Nat → Bool) (F : List AV) : ∀ m, (FL os rs L F m).length = F.length
  | 0 => rfl
  | m + 1 => by
    unfold FL
    split
    · rw [← FL_length os rs L F m]
      cases (os[m]?).bind (·.dst) <;> simp [putA]
    · exact FL_length os rs L F m
theorem FL_get (os : List Oper) (rs : List AV) (L : Nat → Bool) (F : List AV) {s : Nat} (hs : s < F.length) : ∀ m, (FL os rs L F m).getD s .any = valL os rs L F s m
  | 0 => rfl
  | m + 1 => by
    have ih := FL_get os rs L F hs m
    have hl := FL_length os rs L F m
    unfold FL valL
    cases hd : (os[m]?).bind (·.dst) with
    | none =>
      have hno : ¬ (L m = true ∧ (none : Option Tmp) = some s) := fun h => by have := h.2; cases this
      rw [if_neg hno]
      cases hL : L m
      · exact ih
      · exact ih
    | some d =>
      cases hL : L m
      · simpa using ih
      · simp only [if_true, putA, true_and, Option.some.injEq]
        by_cases e : d = s
        · subst e; simp [hl, hs]
        · rw [if_neg e]
          have : (List.set (FL os rs L F m) d (rs.getD m .any)).getD s .any = (FL os rs L F m).getD s .any := by simp [List.getElem?_set, e]
          rw [this, ih]
theorem FL_ext {os : List Oper} {rs : List AV} {L L' : Nat → Bool} {F : List AV} {m m' : Nat} {G : List AV} (hG : G.length = F.length) (h : ∀ s, s < F.length → G.getD s .any = valL os rs L F s m) : G = FL os rs L F m := by
  refine List.ext_getElem? fun s => ?_
  rcases Nat.lt_or_ge s F.length with hs | hs
  · have h1 := h s hs
    rw [← FL_get os rs L F hs m] at h1
    have h2 : G[s]? = some (G.getD s .any) := by simp [hG, hs]
    have h3 : (FL os rs L F m)[s]? = some ((FL os rs L F m).getD s .any) := by simp [FL_length, hs]
    rw [h2, h3, h1]
  · rw [List.getElem?_eq_none (by omega), List.getElem?_eq_none (by rw [FL_length]; omega)]

/-- The slots that an operation looks at. -/
def looks (os : List Oper) (o : Oper) : List Nat :=
  (o.op.operands.toList.filterMap fun | .tmp t => some t | _ => none) ++
  (match o.guard with
   | some (g, _) => ((os[g]?).bind (·.dst)).toList
   | none => [])
def nub : List Nat → List Nat
  | [] => []
  | x :: l => if (nub l).contains x then nub l else x :: nub l
theorem mem_nub {x : Nat} : ∀ {l : List Nat}, x ∈ nub l ↔ x ∈ l
  | [] => Iff.rfl
  | y :: l => by
    have ih : x ∈ nub l ↔ x ∈ l := mem_nub
    unfold nub
    split
    · rename_i h
      rw [ih, List.mem_cons]
      refine ⟨.inr, fun h' => h'.elim (fun e => ?_) id⟩
      subst e
      exact ih.1 (List.contains_iff_mem.1 h)
    · rw [List.mem_cons, List.mem_cons, ih]
/-- The operations that must come ahead, by number. -/
def predsStep (acc : List (List Nat)) (o : Oper) : List (List Nat) := acc ++ [nub ((o.after.toList.filter (Region.binds .any)).flatMap fun e => e.on :: acc.getD e.on [])]
def preds (os : List Oper) : List (List Nat) := os.foldl predsStep []
def clash (os : List Oper) (a b : Oper) : Bool :=
  (match a.dst with
   | some d => (looks os b).contains d || b.dst == some d
   | none => false) ||
  (match b.dst with
   | some d => (looks os a).contains d
   | none => false)
/-- Whatever two operations touch one slot, the edges order them. -/
def drawOK (os : List Oper) : Bool :=
  let ps := preds os
  (List.range os.length).all fun j => match os[j]? with
    | some b => (b.after.toList.all fun e => !Region.binds .any e || decide (e.on < j)) &&
      (List.range j).all fun i => match os[i]? with
        | some a => !clash os a b || (ps.getD j []).contains i
        | none => true
    | none => true

theorem preds_len : ∀ (os : List Oper) (acc : List (List Nat)), (os.foldl predsStep acc).length = acc.length + os.length
  | [], acc => by simp
  | o :: os, acc => by simp [preds_len os, predsStep]; omega
theorem preds_get : ∀ (os : List Oper) (acc : List (List Nat)) (j : Nat), j < acc.length → (os.foldl predsStep acc)[j]? = acc[j]?
  | [], acc, j, _ => rfl
  | o :: os, acc, j, h => by
    simp only [List.foldl_cons]
    rw [preds_get os _ j (by simp [predsStep]; omega)]
    unfold predsStep
    rw [List.getElem?_append_left h]

theorem preds_spec : ∀ (os : List Oper) (acc : List (List Nat)) (j : Nat) (o : Oper), os[j]? = some o → (os.foldl predsStep acc).getD (acc.length + j) [] = nub ((o.after.toList.filter (Region.binds .any)).flatMap fun e => e.on :: (if e.on < acc.length + j then (os.foldl predsStep acc).getD e.on [] else []))
  | [], acc, j, o, h => by simp at h
  | o' :: os, acc, 0, o, h => by
    simp only [List.getElem?_cons_zero, Option.some.injEq] at h
    subst h
    simp only [List.foldl_cons, Nat.add_zero]
    have h1 : (os.foldl predsStep (predsStep acc o')).getD acc.length [] = nub ((o'.after.toList.filter (Region.binds .any)).flatMap fun e => e.on :: acc.getD e.on []) := by
      rw [List.getD_eq_getElem?_getD, preds_get os _ _ (by simp [predsStep])]
      unfold predsStep
      rw [List.getElem?_append_right (Nat.le_refl _)]
      simp
    rw [h1]
    congr 2
    funext e
    congr 1
    split
    · rename_i hlt
      rw [List.getD_eq_getElem?_getD, List.getD_eq_getElem?_getD, preds_get os _ _ (by simp [predsStep]; omega)]
      unfold predsStep
      rw [List.getElem?_append_left hlt]
    · rename_i hge
      rw [List.getD_eq_getElem?_getD, List.getElem?_eq_none (by omega)]
      rfl
  | o' :: os, acc, j + 1, o, h => by
    simp only [List.foldl_cons]
    have := preds_spec os (predsStep acc o') j o (by simpa using h)
    have e : (predsStep acc o').length + j = acc.length + (j + 1) := by simp [predsStep]; omega
    rw [e] at this
    exact this
theorem preds_at {os : List Oper} {j : Nat} {o : Oper} (h : os[j]? = some o) : (preds os).getD j [] = nub ((o.after.toList.filter (Region.binds .any)).flatMap fun e => e.on :: (if e.on < j then (preds os).getD e.on [] else [])) := by
  have := preds_spec os [] j o h
  simp only [List.length_nil, Nat.zero_add] at this
  exact this

/-- Closed under what must come ahead. -/
def Closed (os : List Oper) (L : Nat → Bool) : Prop := ∀ j o, os[j]? = some o → L j = true → ∀ e ∈ o.after.toList, Region.binds .any e = true → L e.on = true
theorem closed_preds {os : List Oper} {L : Nat → Bool} (hc : Closed os L) (hlt : ∀ j o, os[j]? = some o → ∀ e ∈ o.after.toList, Region.binds .any e = true → e.on < j) : ∀ n j, j < n → ∀ o, os[j]? = some o → (∀ e ∈ o.after.toList, Region.binds .any e = true → L e.on = true) → ∀ i ∈ (preds os).getD j [], L i = true := by
  intro n
  induction n with
  | zero => intro j hj; omega
  | succ n ih =>
    intro j hj o ho hL i hi
    rw [preds_at ho, mem_nub] at hi
    obtain ⟨e, he, hi⟩ := List.mem_flatMap.1 hi
    obtain ⟨he1, he2⟩ := List.mem_filter.1 he
    have hon := hL e he1 he2
    rcases List.mem_cons.1 hi with rfl | hi
    · exact hon
    · rw [if_pos (hlt j o ho e he1 he2)] at hi
      have hlt' := hlt j o ho e he1 he2
      have hjlen := (List.getElem?_eq_some_iff.1 ho).1
      have ho' : os[e.on]? = some (os[e.on]'(by omega)) := List.getElem?_eq_getElem (by omega)
      exact ih e.on (by omega) _ ho' (fun e' h1 h2 => hc _ _ ho' hon e' h1 h2) i hi

theorem FL_cons (o : Oper) (os : List Oper) (r : AV) (rs : List AV) (F : List AV) : ∀ m, FL (o :: os) (r :: rs) (fun _ => true) F (m + 1) = FL os rs (fun _ => true) (putA F o.dst r) m
  | 0 => by simp [FL]
  | m + 1 => by
    have ih := FL_cons o os r rs F m
    rw [FL, if_pos rfl, ih, FL, if_pos rfl]
    simp
theorem qrun_spec {K : List AV → Prop} : ∀ (l : List Oper) (F : List AV) (rs : List AV), QRun P ops H K l F rs → (∀ i o, l[i]? = some o → QV P ops o (FL l rs (fun _ => true) F i) H (rs.getD i .any)) ∧ K (FL l rs (fun _ => true) F l.length)
  | [], F, rs, h => ⟨fun i o hi => by simp at hi, h.2⟩
  | o :: l, F, rs, h => by
    obtain ⟨r, rs', rfl, h1, h2⟩ := h
    obtain ⟨g1, g2⟩ := qrun_spec l _ rs' h2
    refine ⟨fun i o' hi => ?_, by rw [List.length_cons, FL_cons]; exact g2⟩
    cases i with
    | zero =>
      simp only [List.getElem?_cons_zero, Option.some.injEq] at hi
      subst hi
      exact h1
    | succ i =>
      rw [FL_cons]
      exact g1 i o' (by simpa using hi)

theorem draw_spec {os : List Oper} (h : drawOK os = true) : (∀ j o, os[j]? = some o → ∀ e ∈ o.after.toList, Region.binds .any e = true → e.on < j) ∧
    ∀ i j a b, i < j → os[i]? = some a → os[j]? = some b → clash os a b = true → i ∈ (preds os).getD j [] := by
  simp only [drawOK, List.all_eq_true, List.mem_range] at h
  constructor
  · intro j o ho e he hb
    have := h j (List.getElem?_eq_some_iff.1 ho).1
    rw [ho] at this
    simp only [Bool.and_eq_true, List.all_eq_true] at this
    have := this.1 e he
    simpa [hb] using this
  · intro i j a b hij ha hb hc
    have := h j (List.getElem?_eq_some_iff.1 hb).1
    rw [hb] at this
    simp only [Bool.and_eq_true, List.all_eq_true, List.mem_range] at this
    have := this.2 i hij
    rw [ha] at this
    simp only [hc, Bool.not_true, Bool.false_or] at this
    simpa using this

/-- Where an operation that may go next looks, the frame is as in the text's order. -/
theorem val_agree {os : List Oper} {rs F : List AV} {L : Nat → Bool} {i s : Nat} (hw : ∀ k o, os[k]? = some o → o.dst = some s → L k = decide (k < i)) : ∀ m, valL os rs L F s m = valL os rs (fun _ => true) F s (min m i)
  | 0 => by simp [valL]
  | m + 1 => by
    have ih := val_agree (rs := rs) (F := F) hw m
    rw [valL]
    by_cases hd : (os[m]?).bind (·.dst) = some s
    · obtain ⟨o, ho, hs⟩ := Option.bind_eq_some_iff.1 hd
      have hL := hw m o ho hs
      by_cases hm : m < i
      · rw [if_pos ⟨by rw [hL]; simpa using hm, hd⟩, show min (m + 1) i = m + 1 by omega, valL, if_pos ⟨rfl, hd⟩]
      · rw [if_neg (by rw [hL]; simp [hm]), ih, show min (m + 1) i = min m i by omega]
    · rw [if_neg (by simp [hd]), ih]
      by_cases hm : m < i
      · rw [show min (m + 1) i = m + 1 by omega, show min m i = m by omega, valL, if_neg (by simp [hd])]
      · rw [show min (m + 1) i = min m i by omega]

theorem val_last {os : List Oper} {rs F : List AV} {L L' : Nat → Bool} {i s : Nat} {o : Oper} (ho : os[i]? = some o) (hL' : ∀ k, L' k = (L k || k == i)) (hw : ∀ k o', os[k]? = some o' → o'.dst = some s → L k = decide (k < i)) (hs : o.dst = some s) : ∀ m, i < m → valL os rs L' F s m = rs.getD i .any
  | 0, h => by omega
  | m + 1, h => by
    rw [valL]
    by_cases hm : m = i
    · subst hm
      rw [if_pos ⟨by rw [hL']; simp, by rw [ho]; exact hs⟩]
    · rw [if_neg]
      · exact val_last ho hL' hw hs m (by omega)
      · rintro ⟨h1, h2⟩
        obtain ⟨o', ho', hs'⟩ := Option.bind_eq_some_iff.1 h2
        rw [hL', hw m o' ho' hs'] at h1
        simp at h1
        omega
theorem val_same {os : List Oper} {rs F : List AV} {L L' : Nat → Bool} {i s : Nat} {o : Oper} (ho : os[i]? = some o) (hL' : ∀ k, L' k = (L k || k == i)) (hs : o.dst ≠ some s) : ∀ m, valL os rs L' F s m = valL os rs L F s m
  | 0 => rfl
  | m + 1 => by
    have ih := val_same (rs := rs) (F := F) ho hL' hs m
    rw [valL, valL, ih, hL']
    by_cases hm : m = i
    · subst hm
      rw [ho]
      simp [hs]
    · simp [hm]

theorem operand_look {os : List Oper} {o : Oper} {t : Nat} (h : Operand.tmp t ∈ o.op.operands.toList) : t ∈ looks os o :=
  List.mem_append_left _ (List.mem_filterMap.2 ⟨_, h, rfl⟩)

theorem agree_of {os : List Oper} {o : Oper} {F G : List AV} (hl : F.length = G.length) (h : ∀ s ∈ looks os o, s < F.length → G.getD s .any = F.getD s .any) : Agree os.toArray o F G := by
  have hget : ∀ s ∈ looks os o, G[s]? = F[s]? := fun s hs => by
    rcases Nat.lt_or_ge s F.length with h1 | h1
    · have := h s hs h1
      have e1 : G[s]? = some (G.getD s .any) := by simp [← hl, h1]
      have e2 : F[s]? = some (F.getD s .any) := by simp [h1]
      rw [e1, e2, this]
    · rw [List.getElem?_eq_none (by omega), List.getElem?_eq_none h1]
  constructor
  · intro x hx
    cases x with
    | tmp t => simp only [evA, List.getD_eq_getElem?_getD, hget t (operand_look hx)]
    | const v => rfl
    | global g => rfl
    | func f => rfl
  · intro j b hg
    unfold guardB
    cases hd : (os.toArray[j]?).bind (·.dst) with
    | none => rfl
    | some d =>
      simp only
      rw [hget d (List.mem_append_right _ (by rw [hg]; simp at hd ⊢; simpa using hd))]

theorem any_run {l : List Oper} {rs F : List AV} {Q : Exit → List AV → Hp → Prop} (hok : drawOK l = true) (hqv : ∀ i o, l[i]? = some o → QV P l.toArray o (FL l rs (fun _ => true) F i) H (rs.getD i .any)) (hK : Q .normal (FL l rs (fun _ => true) F l.length) H) (w0 : World) :
    ∀ (fuel : Nat) (listed : Array Bool), listed.size = l.length → Closed l (fun i => listed.getD i false) → (List.range l.length).countP (fun i => !listed.getD i false) = fuel →
      ∀ w tm, RelW w H → RelF w H (FL l rs (fun i => listed.getD i false) F l.length) tm → Ext w0 H w H → wpAny P .any l.toArray (Post Q w0 H) fuel listed ⟨tm, []⟩ w := by
  obtain ⟨hlt, hcl⟩ := draw_spec hok
  -- when all are done
  have fin : ∀ (listed : Array Bool), (∀ i, i < l.length → listed.getD i false = true) → ∀ w tm, RelW w H → RelF w H (FL l rs (fun i => listed.getD i false) F l.length) tm → Ext w0 H w H → Post Q w0 H .normal ⟨tm, []⟩ w := by
    intro listed hall w tm h1 h2 h3
    have e : FL l rs (fun i => listed.getD i false) F l.length = FL l rs (fun _ => true) F l.length := by
      have gen : ∀ m, m ≤ l.length → FL l rs (fun i => listed.getD i false) F m = FL l rs (fun _ => true) F m := by
        intro m
        induction m with
        | zero => intro _; rfl
        | succ m ih => intro hm; rw [FL, FL, ih (by omega), hall m (by omega)]
      exact gen _ (Nat.le_refl _)
    rw [e] at h2
    exact ⟨tm, _, H, rfl, hK, h1, h2, h3⟩
  intro fuel
  induction fuel with
  | zero =>
    intro listed hsz hcls hcnt w tm h1 h2 h3
    have hall : ∀ i, i < l.length → listed.getD i false = true := fun i hi => by
      have := (List.countP_eq_zero.1 hcnt) i (List.mem_range.2 hi)
      simpa using this
    refine ⟨?_, fin listed hall w tm h1 h2 h3⟩
    rw [List.eq_nil_iff_forall_not_mem]
    intro j hj
    obtain ⟨hj0, o, ho, _⟩ := mem_ready.1 hj
    have hjl : j < l.length := by have := (Array.getElem?_eq_some_iff.1 ho).1; simpa using this
    have := hall j hjl
    simp [hsz, hjl] at this hj0
    rw [this] at hj0; cases hj0
  | succ fuel ih =>
    intro listed hsz hcls hcnt w tm h1 h2 h3
    refine ⟨fun hnil => ?_, fun i hi => ?_⟩
    · -- some operation is ready
      exfalso
      have hex : ∃ i, i < l.length ∧ listed.getD i false = false := by
        have hpos : 0 < (List.range l.length).countP (fun i => !listed.getD i false) := by omega
        obtain ⟨i, hi, hp⟩ := List.countP_pos_iff.1 hpos
        exact ⟨i, List.mem_range.1 hi, by simpa using hp⟩
      obtain ⟨i, ⟨hi, hf⟩, hleast⟩ := exists_least hex
      have ho : l[i]? = some l[i] := List.getElem?_eq_getElem hi
      have : i ∈ Region.ready .any l.toArray listed := mem_ready.2 ⟨by simp [hsz, hi] at hf ⊢; exact hf, l[i], by simp [hi], fun e he hb => by
        have h4 := hlt i _ ho e (by simpa using he) hb
        cases hv : listed.getD e.on false with
        | true => rfl
        | false => have := hleast e.on ⟨by omega, hv⟩; omega⟩
      rw [hnil] at this
      cases this
    · obtain ⟨hi0, o, ho, hpre⟩ := mem_ready.1 hi
      have ho' : l[i]? = some o := by simpa using ho
      have hil := (List.getElem?_eq_some_iff.1 ho').1
      have hif : listed.getD i false = false := by simp [hsz, hil] at hi0 ⊢; exact hi0
      have hpre' : ∀ e ∈ o.after.toList, Region.binds .any e = true → listed.getD e.on false = true := fun e he hb => hpre e (by simpa using he) hb
      have hbefore := closed_preds hcls hlt (i + 1) i (by omega) o ho' hpre'
      -- who writes where o touches
      have hwr : ∀ k o' s, l[k]? = some o' → o'.dst = some s → (s ∈ looks l o ∨ o.dst = some s) → listed.getD k false = decide (k < i) := by
        intro k o' s hk hs hcase
        rcases Nat.lt_trichotomy k i with h | h | h
        · rw [decide_eq_true h]
          refine hbefore k (hcl k i o' o h hk ho' ?_)
          unfold clash
          rw [hs]
          rcases hcase with h5 | h5
          · simp [h5]
          · simp [h5]
        · subst h; simpa using hif
        · rw [decide_eq_false (by omega)]
          cases hv : listed.getD k false with
          | false => rfl
          | true =>
            have hki : i ∈ (preds l).getD k [] := hcl i k o o' h ho' hk (by
              unfold clash
              rw [hs]
              rcases hcase with h5 | h5
              · simp [h5]
              · simp [h5])
            have := closed_preds hcls hlt (k + 1) k (by omega) o' hk (fun e he hb => hcls k o' hk hv e he hb) i hki
            rw [hif] at this; cases this
      have hag : Agree l.toArray o (FL l rs (fun _ => true) F i) (FL l rs (fun i => listed.getD i false) F l.length) := by
        refine agree_of (by rw [FL_length, FL_length]) fun s hs hlen => ?_
        rw [FL_length] at hlen
        rw [FL_get _ _ _ _ hlen, FL_get _ _ _ _ hlen, val_agree (fun k o' hk hd => hwr k o' s hk hd (.inl hs)), show min l.length i = i by omega]
      have hop := hqv i o ho' _ hag
      have hL' : ∀ k, (listed.setIfInBounds i true).getD k false = (listed.getD k false || k == i) := fun k => by
        by_cases hk : k = i
        · subst hk; simp [hsz, hil]
        · simp [Array.getElem?_setIfInBounds_ne (Ne.symm hk), hk]
      have hnext : putA (FL l rs (fun i => listed.getD i false) F l.length) o.dst (rs.getD i .any) = FL l rs (fun k => (listed.setIfInBounds i true).getD k false) F l.length := by
        refine FL_ext (m' := 0) (L' := fun _ => true) (by cases o.dst <;> simp [putA, FL_length]) fun s hs => ?_
        by_cases hd : o.dst = some s
        · rw [val_last (L := fun i => listed.getD i false) ho' hL' (fun k o' hk hd' => hwr k o' s hk hd' (.inr hd)) hd _ hil, hd]
          simp [putA, FL_length, hs]
        · rw [val_same (L := fun i => listed.getD i false) ho' hL' hd, ← FL_get _ _ _ _ hs]
          cases hd' : o.dst with
          | none => rfl
          | some d =>
            have : d ≠ s := fun e => hd (by rw [hd', e])
            simp [putA, List.getElem?_set, this]
      have := hop w tm (Post Q w0 H) (wpAny P .any l.toArray (Post Q w0 H) fuel (listed.setIfInBounds i true)) h1 h2 (by
        rintro tm' w' F' H' ⟨rfl, rfl⟩ g1 g2 g3
        refine ih (listed.setIfInBounds i true) (by simpa using hsz) ?_ ?_ w' tm' g1 (by rw [← hnext]; exact g2) (h3.trans g3)
        · intro j o' hj hLj e he hb
          simp only [hL'] at hLj ⊢
          rcases Bool.or_eq_true_iff.1 hLj with h6 | h6
          · have h7 : listed.getD e.on false = true := hcls j o' hj h6 e he hb
            rw [h7]; rfl
          · obtain rfl : j = i := by simpa using h6
            rw [ho'] at hj; cases hj
            rw [hpre' e he hb]; rfl
        · have : ∀ (n : Nat), i < n → (List.range n).countP (fun k => !(listed.setIfInBounds i true).getD k false) + 1 = (List.range n).countP (fun k => !listed.getD k false) := by
            intro n
            induction n with
            | zero => intro h; omega
            | succ n ihn =>
              intro h
              rw [List.range_succ, List.countP_append, List.countP_append]
              by_cases hn : n = i
              · subst hn
                have : (List.range n).countP (fun k => !(listed.setIfInBounds n true).getD k false) = (List.range n).countP (fun k => !listed.getD k false) := by
                  refine List.countP_congr fun k hk => ?_
                  rw [hL']
                  have : k ≠ n := by have := List.mem_range.1 hk; omega
                  simp [this]
                rw [this]
                simp only [List.countP_singleton, hL', hif]
                simp
              · rw [← ihn (by omega)]
                simp only [List.countP_singleton, hL']
                have : (n == i) = false := by simpa using hn
                rw [this, Bool.or_false]
                omega
          have := this l.length hil
          omega)
      unfold wpOp
      rw [ho]
      exact this

/-- A region that leaves its order open. -/
theorem awp_region_draw {id : Nat} {l : List Oper} {F : List AV} {Q : Exit → List AV → Hp → Prop} (hm : P.follows .mixedOrders = true) (hok : drawOK l = true) (h : vclQ P l.toArray H (fun F' => Q .normal F' H) l F) : AWP P (.region id l.toArray true) Q F H := fun w tm h1 h2 => by
  obtain ⟨rs, hrun⟩ := qrun_of l F h
  obtain ⟨hqv, hK⟩ := qrun_spec l F rs hrun
  have hz : ∀ i, (Array.replicate l.toArray.size false).getD i false = false := fun i => by
    by_cases hi : i < l.length <;> simp [Array.getElem?_replicate, hi]
  refine wp_region_any hm ?_
  have e0 : FL l rs (fun i => (Array.replicate l.toArray.size false).getD i false) F l.length = F := by
    have gen : ∀ m, FL l rs (fun i => (Array.replicate l.toArray.size false).getD i false) F m = F := by
      intro m
      induction m with
      | zero => rfl
      | succ m ih => rw [FL, hz, if_neg (by simp), ih]
    exact gen _
  exact any_run hok hqv hK w l.toArray.size (Array.replicate l.toArray.size false) (by simp) (fun j o _ hj => by have := (hz j).symm.trans hj; cases this) (by
    rw [List.countP_eq_length.2 (fun i _ => by rw [hz]; rfl)]
    simp) w.drew tm h1.drew (by rw [e0]; exact h2.ext (Ext.drew w H)) (Ext.drew w H)
end
section
variable {P : Program} {ops : Array Oper} {H : Hp} {K : List AV → Prop} {F : List AV} {dst : Option Tmp} {ty : TypeId} {pos : String} {after : Array Edge} {rest : List Oper}
@[go_sem] theorem vclQ_nil : vclQ P ops H K [] F = K F := (rfl)
@[go_sem] theorem vclQ_move (x : Operand) : vclQ P ops H K (⟨dst, .move x, ty, pos, after, none⟩ :: rest) F = vclQ P ops H K rest (putA F dst (evA F x)) := by simp [vclQ, vq]
@[go_sem] theorem vclQ_assign (x : Operand) : vclQ P ops H K (⟨dst, .assign x, ty, pos, after, none⟩ :: rest) F = vclQ P ops H K rest (putA F dst (evA F x)) := by simp [vclQ, vq]
@[go_sem] theorem vclQ_pick (c a b : Operand) : vclQ P ops H K (⟨dst, .pick c a b, ty, pos, after, none⟩ :: rest) F = ((qPick (evA F c) (evA F a) (evA F b)).1 ∧ vclQ P ops H K rest (putA F dst (qPick (evA F c) (evA F a) (evA F b)).2)) := (rfl)
@[go_sem] theorem vclQ_nilCheck (x : Operand) : vclQ P ops H K (⟨dst, .nilCheck x, ty, pos, after, none⟩ :: rest) F = ((qNil (evA F x)).1 ∧ vclQ P ops H K rest (putA F dst (qNil (evA F x)).2)) := (rfl)
@[go_sem] theorem vclQ_unOp (op : UnOp) (t : TypeId) (x : Operand) : vclQ P ops H K (⟨dst, .unOp op t x, ty, pos, after, none⟩ :: rest) F = ((qUn op (evA F x)).1 ∧ vclQ P ops H K rest (putA F dst (qUn op (evA F x)).2)) := (rfl)
@[go_sem] theorem vclQ_load (t : TypeId) (x : Operand) : vclQ P ops H K (⟨dst, .load t x, ty, pos, after, none⟩ :: rest) F = ((qLoad P H t (evA F x)).1 ∧ vclQ P ops H K rest (putA F dst (qLoad P H t (evA F x)).2)) := (rfl)
@[go_sem] theorem vclQ_fieldAddr (t : TypeId) (x : Operand) (f : Nat) : vclQ P ops H K (⟨dst, .fieldAddr t x f, ty, pos, after, none⟩ :: rest) F = ((qFieldAddr P t (evA F x) f).1 ∧ vclQ P ops H K rest (putA F dst (qFieldAddr P t (evA F x) f).2)) := (rfl)
@[go_sem] theorem vclQ_field (t : TypeId) (x : Operand) (f : Nat) : vclQ P ops H K (⟨dst, .field t x f, ty, pos, after, none⟩ :: rest) F = ((qField P t (evA F x) f).1 ∧ vclQ P ops H K rest (putA F dst (qField P t (evA F x) f).2)) := (rfl)
@[go_sem] theorem vclQ_indexAddr (t : TypeId) (x i : Operand) : vclQ P ops H K (⟨dst, .indexAddr t x i, ty, pos, after, none⟩ :: rest) F = ((qIndexAddr P t (evA F x) (evA F i)).1 ∧ vclQ P ops H K rest (putA F dst (qIndexAddr P t (evA F x) (evA F i)).2)) := (rfl)
@[go_sem] theorem vclQ_index (t : TypeId) (x i : Operand) : vclQ P ops H K (⟨dst, .index t x i, ty, pos, after, none⟩ :: rest) F = ((qIndex P t (evA F x) (evA F i)).1 ∧ vclQ P ops H K rest (putA F dst (qIndex P t (evA F x) (evA F i)).2)) := (rfl)
@[go_sem] theorem vclQ_extract (x : Operand) (i : Nat) : vclQ P ops H K (⟨dst, .extract x i, ty, pos, after, none⟩ :: rest) F = ((qExtract (evA F x) i).1 ∧ vclQ P ops H K rest (putA F dst (qExtract (evA F x) i).2)) := (rfl)
@[go_sem] theorem vclQ_slice (t : TypeId) (a : Operand) (lo hi mx : Option Operand) : vclQ P ops H K (⟨dst, .slice t a lo hi mx, ty, pos, after, none⟩ :: rest) F = ((qSlice P t (evA F a) (lo.map (evA F)) (hi.map (evA F)) (mx.map (evA F))).1 ∧ vclQ P ops H K rest (putA F dst (qSlice P t (evA F a) (lo.map (evA F)) (hi.map (evA F)) (mx.map (evA F))).2)) := (rfl)
@[go_sem] theorem vclQ_makeFunc (fn : Fn) (a b : Array Operand) : vclQ P ops H K (⟨dst, .makeFunc fn a b, ty, pos, after, none⟩ :: rest) F = ((qFunc fn (a.toList.map (evA F)) (b.toList.map (evA F))).1 ∧ vclQ P ops H K rest (putA F dst (qFunc fn (a.toList.map (evA F)) (b.toList.map (evA F))).2)) := (rfl)
@[go_sem] theorem vclQ_makeIface (t : TypeId) (x : Operand) : vclQ P ops H K (⟨dst, .makeInterface t x, ty, pos, after, none⟩ :: rest) F = ((qIface P t (evA F x)).1 ∧ vclQ P ops H K rest (putA F dst (qIface P t (evA F x)).2)) := (rfl)
@[go_sem] theorem vclQ_convert (s d : TypeId) (x : Operand) : vclQ P ops H K (⟨dst, .convert s d x, ty, pos, after, none⟩ :: rest) F = ((qConv P s d (evA F x)).1 ∧ vclQ P ops H K rest (putA F dst (qConv P s d (evA F x)).2)) := (rfl)
@[go_sem] theorem vclQ_build (t : TypeId) (ps : Array (Nat × Operand)) : vclQ P ops H K (⟨dst, .build t ps, ty, pos, after, none⟩ :: rest) F = ((qBuild P t (ps.toList.map fun p => (p.1, evA F p.2))).1 ∧ vclQ P ops H K rest (putA F dst (qBuild P t (ps.toList.map fun p => (p.1, evA F p.2))).2)) := (rfl)
@[go_sem] theorem vclQ_len (as : Array Operand) (ts : Array TypeId) : vclQ P ops H K (⟨dst, .call ⟨.builtin .len, as, ts⟩, ty, pos, after, none⟩ :: rest) F = ((qBuiltin P .len ts.toList (as.toList.map (evA F))).1 ∧ vclQ P ops H K rest (putA F dst (qBuiltin P .len ts.toList (as.toList.map (evA F))).2)) := (rfl)
@[go_sem] theorem vclQ_cap (as : Array Operand) (ts : Array TypeId) : vclQ P ops H K (⟨dst, .call ⟨.builtin .cap, as, ts⟩, ty, pos, after, none⟩ :: rest) F = ((qBuiltin P .cap ts.toList (as.toList.map (evA F))).1 ∧ vclQ P ops H K rest (putA F dst (qBuiltin P .cap ts.toList (as.toList.map (evA F))).2)) := (rfl)
@[go_sem] theorem vclQ_max (as : Array Operand) (ts : Array TypeId) : vclQ P ops H K (⟨dst, .call ⟨.builtin .max, as, ts⟩, ty, pos, after, none⟩ :: rest) F = ((qBuiltin P .max ts.toList (as.toList.map (evA F))).1 ∧ vclQ P ops H K rest (putA F dst (qBuiltin P .max ts.toList (as.toList.map (evA F))).2)) := (rfl)
@[go_sem] theorem vclQ_min (as : Array Operand) (ts : Array TypeId) : vclQ P ops H K (⟨dst, .call ⟨.builtin .min, as, ts⟩, ty, pos, after, none⟩ :: rest) F = ((qBuiltin P .min ts.toList (as.toList.map (evA F))).1 ∧ vclQ P ops H K rest (putA F dst (qBuiltin P .min ts.toList (as.toList.map (evA F))).2)) := (rfl)
@[go_sem] theorem vclQ_binOp (op : BinOp) (t : TypeId) (x y : Operand) (t' : TypeId) : vclQ P ops H K (⟨dst, .binOp op t x y t', ty, pos, after, none⟩ :: rest) F = ((qBin P op t (evA F x) (evA F y)).1 ∧ vclQ P ops H K rest (putA F dst (qBin P op t (evA F x) (evA F y)).2)) := (rfl)
@[go_sem] theorem vclQ_call (f : Operand) (as : Array Operand) (ts : Array TypeId) : vclQ P ops H K (⟨dst, .call ⟨.value f, as, ts⟩, ty, pos, after, none⟩ :: rest) F = ∃ r, (vCall P (evA F f) (as.toList.map (evA F)) H fun r' H' => r' = r ∧ H' = H) ∧ vclQ P ops H K rest (putA F dst r) := (rfl)
@[go_sem] theorem vclQ_lit (t : TypeId) (n : Nat) (ps : Array (Nat × Operand)) : vclQ P ops H K (⟨dst, .buildSlice t n ps, ty, pos, after, none⟩ :: rest) F = vLit P H t n (ps.toList.map fun p => (p.1, evA F p.2)) fun r _ => vclQ P ops H K rest (putA F dst r) := (rfl)
@[go_sem] theorem vclQ_guard (op : Op) (j : Nat) (want : Bool) : vclQ P ops H K (⟨dst, op, ty, pos, after, some (j, want)⟩ :: rest) F = match guardB ops F j want with
      | some b => (isCallV op || guardQuiet op) = true ∧ vcG P F H b (fun r => vclQ P ops H K rest (putA F dst r)) op
      | none => False := by simp [vclQ]
end
end Go.Fc

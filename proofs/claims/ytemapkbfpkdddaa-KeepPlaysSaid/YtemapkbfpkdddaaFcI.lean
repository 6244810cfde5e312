/- A region walked in the order of the text, guards and all; a function entered, its results. No conditions. -/
import Derived.Test.YtemapkbfpkdddaaFcH
set_option linter.all false
namespace Go.Fc
open Go

@[congr] theorem vCall_congr {P : Program} {f f' : AV} {args args' : List AV} {H : Hp} {K : AV → Hp → Prop} (h1 : f = f') (h2 : args = args') : vCall P f args H K = vCall P f' args' H K := by rw [h1, h2]
@[congr] theorem ACalls_congr {P : Program} {f : FuncId} {args args' : List AV} {H : Hp} {K : AV → Hp → Prop} (h2 : args = args') : ACalls P f args H K = ACalls P f args' H K := by rw [h2]
@[congr] theorem vAlloc_congr {P : Program} {H : Hp} {t : TypeId} {K : AV → Hp → Prop} : vAlloc P H t K = vAlloc P H t K := rfl
@[congr] theorem vBox_congr {H : Hp} {t : TypeId} {x x' : AV} {K : AV → Hp → Prop} (h : x = x') : vBox H t x K = vBox H t x' K := by rw [h]
@[congr] theorem AppendVC_congr {P : Program} {t : TypeId} {a a' x x' : AV} {H : Hp} {K : AV → Hp → Prop} (h1 : a = a') (h2 : x = x') : AppendVC P t a x H K = AppendVC P t a' x' H K := by rw [h1, h2]
@[congr] theorem AppendTo_congr {P : Program} {t t' : TypeId} {a a' x x' : AV} {H : Hp} {K : AV → Hp → Prop} (h1 : a = a') (h2 : x = x') : AppendTo P t t' a x H K = AppendTo P t t' a' x' H K := by rw [h1, h2]
@[congr] theorem BuiltinVC_congr {P : Program} {b : Builtin} {ts ts' : List TypeId} {as as' : List AV} {H : Hp} {K : AV → Hp → Prop} (h1 : ts = ts') (h2 : as = as') : BuiltinVC P b ts as H K = BuiltinVC P b ts' as' H K := by rw [h1, h2]

/-- Whether an operation under a guard is done; where the guard itself was not reached, it is not. -/
def guardB (ops : Array Oper) (F : List AV) (j : Nat) (want : Bool) : Option Bool := match (ops[j]?).bind (·.dst) with
  | some d => match F[d]? with
    | some (.raw (.bool b)) => some (b == want)
    | some (.gd g (.raw (.bool b))) => some (g && (b == want))
    | _ => none
  | none => none
def evG (F : List AV) (x : Operand) : AV := (unG (evA F x)).2
def okG (F : List AV) (o : Op) : Bool := o.operands.toList.all fun x => (unG (evA F x)).1
def guardQuiet : Op → Bool
  | .binOp .eql .. => true
  | .binOp .neq .. => true
  | o => quietOp o
/-- Operations under a guard that make no memory. -/
def vcG (P : Program) (F : List AV) (H : Hp) (g : Bool) (K : AV → Prop) : Op → Prop
  | .call { callee := .value f, args, argTypes } => ∃ r, (g = true → okG F (.call ⟨.value f, args, argTypes⟩) = true ∧ vCall P (evG F f) (args.toList.map (evG F)) H fun r' H' => r' = r ∧ H' = H) ∧ K (.gd g r)
  | .pick c a b => (g = true → (unG (evA F c)).1 = true ∧ (qPick (evG F c) (evA F a) (evA F b)).1) ∧ K (.gd g (qPick (evG F c) (evA F a) (evA F b)).2)
  | o => if guardQuiet o then (g = true → okG F o = true ∧ (vq P (evG F) H o).1) ∧ K (.gd g (vq P (evG F) H o).2) else False
def isCallV : Op → Bool
  | .call { callee := .value _, .. } => true
  | _ => false

def vcl (P : Program) (ops : Array Oper) (K : List AV → Hp → Prop) : List Oper → List AV → Hp → Prop
  | [], F, H => K F H
  | o :: rest, F, H => match o.guard with
    | none => vc P (evA F) H o.type (fun r H' => vcl P ops K rest (putA F o.dst r) H') o.op
    | some (j, want) => match guardB ops F j want with
      | some b => if isCallV o.op || guardQuiet o.op then vcG P F H b (fun r => vcl P ops K rest (putA F o.dst r) H) o.op
        else (b = true → vc P (evA F) H o.type (fun r H' => vcl P ops K rest (putA F o.dst r) H') o.op) ∧ (b = false → vcl P ops K rest (putA F o.dst .any) H)
      | none => False

section
variable {P : Program} {ops : Array Oper} {F : List AV} {H : Hp}

theorem vc_wp {o : Oper} {K : List AV → Hp → Prop} {ev : Operand → AV} (h : vc P ev H o.type (fun r H' => K (putA F o.dst r) H') o.op) {w : World} {tm : Array Value} {Q : Exit → Act → World → Prop} {next : Act → World → Prop}
    (h1 : RelW w H) (h2 : RelF w H F tm) (hr : ∀ x, RelV w H (ev x) ((Act.mk tm []).eval x))
    (hn : ∀ tm' w' F' H', K F' H' → RelW w' H' → RelF w' H' F' tm' → Ext w H w' H' → next ⟨tm', []⟩ w') : o.wp P ⟨tm, []⟩ w next Q := by
  have quiet : ((vq P ev H o.op).1 ∧ K (putA F o.dst (vq P ev H o.op).2) H) → o.wp P ⟨tm, []⟩ w next Q := fun hq => by
    obtain ⟨v, hrun, hv⟩ := vq_sound o h1 hr hq.1
    simp only [Oper.wp, hrun, Oper.upon]
    rw [Act.put_eq]
    exact hn _ w _ H hq.2 h1 (h2.put o.dst hv []) (Ext.refl w H)
  have val : ∀ {w' : World} {H' : Hp} {r : AV} {v : Value}, (execOp (Act.mk tm []).eval o).run P w = .ok (.value v) w' → K (putA F o.dst r) H' → RelW w' H' → RelV w' H' r v → Ext w H w' H' → o.wp P ⟨tm, []⟩ w next Q := fun {w' H' r v} hrun hk g1 g2 g3 => by
    simp only [Oper.wp, hrun, Oper.upon]
    rw [Act.put_eq]
    exact hn _ w' _ H' hk g1 ((h2.ext g3).put o.dst g2 []) g3
  have skip : ∀ {w' : World} {H' : Hp}, (execOp (Act.mk tm []).eval o).run P w = .ok .skip w' → K (putA F o.dst .any) H' → RelW w' H' → Ext w H w' H' → o.wp P ⟨tm, []⟩ w next Q := fun {w' H'} hrun hk g1 g3 => by
    simp only [Oper.wp, hrun, Oper.upon]
    rw [Act.put_eq]
    exact hn _ w' _ H' hk g1 ((h2.ext g3).put o.dst (.any _) []) g3
  have other : OpVC P o.op o.type ev H (fun r H' => K (putA F o.dst r) H') → o.wp P ⟨tm, []⟩ w next Q := fun ho => by
    obtain ⟨w', H', r, hk, g1, g2, g3⟩ := ho w (Act.mk tm []).eval o.dst o.pos o.after o.guard h1 (fun x _ => hr x)
    rcases g3 with ⟨v, hrun, hv⟩ | ⟨hrun, rfl⟩
    · exact val hrun hk g1 hv g2
    · exact skip hrun hk g1 g2
  obtain ⟨dst, op, ty, pos, after, guard⟩ := o
  have vrun : ∀ {s : Sem Value} {v : Value} {w' : World}, s.run P w = .ok v w' → (do pure (Next.value (← s)) : Sem Next).run P w = .ok (.value v) w' := fun hs => by simp [hs]
  cases op
  case box t x =>
    obtain ⟨ho, hk⟩ := h
    obtain ⟨b, w', hb, hrun, g1, g2⟩ := newVar_sound (P := P) (t := t) h1 (hr x) ho
    exact val (vrun hrun) (hk b hb) g1 (.raw _) g2
  case alloc t =>
    simp only [vc, vAlloc] at h
    split at h
    · rename_i zs hz
      obtain ⟨b, w', hb, hrun, g1, g2⟩ := alloc_sound (P := P) (t := t) h1 hz
      exact val (vrun hrun) (h b hb) g1 (.raw _) g2
    · exact h.elim
  case store t a x =>
    simp only [vc, vStore] at h
    split at h
    · rename_i b off k ha hk
      split at h
      · rename_i r hb
        obtain ⟨⟨s1, s2, s3⟩, hk'⟩ := h
        have hva := raw_inv (ha ▸ hr a)
        obtain ⟨w', hrun, g1, g2⟩ := storeAt_sound (P := P) h1 hb (hr x) s1 hk s2 s3
        refine skip ?_ hk' g1 g2
        simp only [execOp, hva, Sem.run_bind, hrun, Result.andThen_ok, Sem.run_pure]
      · exact h.elim
    · exact h.elim
  case buildSlice t n parts =>
    have h' : vLit P H t n (parts.toList.map fun p => (p.1, ev p.2)) (fun r H' => K (putA F dst r) H') := h
    obtain ⟨w', r, v, hrun, hk, g1, g2, g3⟩ := vLit_sound (P := P) (parts := parts.toList.map fun p => (p.1, ev p.2)) (vparts := parts.map fun p => (p.1, (Act.mk tm []).eval p.2)) h1 (by simp) (fun i a v ha hv => by
      simp only [List.getElem?_map, Option.map_eq_some_iff, Array.toList_map, Array.getElem?_toList] at ha hv
      obtain ⟨x, hx, rfl⟩ := ha
      obtain ⟨y, hy, rfl⟩ := hv
      rw [hx] at hy; cases hy; exact hr x.2) h'
    exact val (vrun hrun) hk g1 g2 g3
  case binOp op t x y t' =>
    cases op
    case eql =>
      obtain ⟨r, v, hrun, hk, hv⟩ := vNilEq_sound (P := P) (K := fun r H' => K (putA F dst r) H') false t x y (hr x) (hr y) h
      exact val (vrun hrun) hk h1 hv (Ext.refl w H)
    case neq =>
      obtain ⟨r, v, hrun, hk, hv⟩ := vNilEq_sound (P := P) (K := fun r H' => K (putA F dst r) H') true t x y (hr x) (hr y) h
      exact val (vrun hrun) hk h1 hv (Ext.refl w H)
    all_goals exact quiet h
  case call c =>
    obtain ⟨callee, args, argTypes⟩ := c
    cases callee
    case value f =>
      refine call_sound rfl rfl h h1 hr fun v r w' H' hk g1 g2 g3 => ?_
      rw [Act.put_eq]
      exact hn _ w' _ H' hk g1 ((h2.ext g3).put dst g2 []) g3
    case invoke r m => exact other h
    case builtin b =>
      have hargs : args.map (Act.mk tm []).eval = (args.toList.map (Act.mk tm []).eval).toArray := by rw [← Array.toList_map, Array.toArray_toList]
      have bvc : BuiltinVC P b argTypes.toList (args.toList.map ev) H (fun r H' => K (putA F dst r) H') → Oper.wp P ⟨dst, .call ⟨.builtin b, args, argTypes⟩, ty, pos, after, guard⟩ ⟨tm, []⟩ w next Q := fun hb => by
        obtain ⟨w', H', r, v, hrun, hk, g1, g2, g3⟩ := hb w _ ty (args.map fun | .const _ => true | _ => false) h1 (relL_map hr args.toList)
        refine val (w' := w') (v := v) ?_ hk g1 g2 g3
        simp only [execOp, resolve, pure_bind, invoke, hargs]
        exact hrun
      cases b
      case append =>
        simp only [vc] at h
        split at h
        · rename_i t t' a x ht ha
          obtain ⟨w', H', r, v, hrun, hk, g1, g2, g3⟩ := h w _ _ ty h1 (hr a) (hr x)
          refine val (w' := w') (v := v) ?_ hk g1 g2 g3
          have e1 : argTypes = #[t, t'] := by rw [← Array.toArray_toList (xs := argTypes), ht]
          have e2 : args = #[a, x] := by rw [← Array.toArray_toList (xs := args), ha]
          subst e1 e2
          simp only [execOp, resolve, pure_bind, invoke, builtin, Sem.run_bind]
          have : (#[a, x].map (Act.mk tm []).eval) = #[(Act.mk tm []).eval a, (Act.mk tm []).eval x] := by simp
          rw [this, hrun]
          rfl
        · exact h.elim
      case len => exact quiet h
      case cap => exact quiet h
      case max => exact quiet h
      case min => exact quiet h
      all_goals exact bvc h
  case move => exact quiet h
  case assign => exact quiet h
  case pick => exact quiet h
  case nilCheck => exact quiet h
  case unOp => exact quiet h
  case load => exact quiet h
  case fieldAddr => exact quiet h
  case field => exact quiet h
  case indexAddr => exact quiet h
  case index => exact quiet h
  case extract => exact quiet h
  case slice => exact quiet h
  case makeFunc => exact quiet h
  case makeInterface => exact quiet h
  case convert => exact quiet h
  case build => exact quiet h
  all_goals first | exact other h | exact (quiet h)


theorem aop_vc {o : Oper} {K : List AV → Hp → Prop} (hg : o.guard = none) (h : vc P (evA F) H o.type (fun r H' => K (putA F o.dst r) H') o.op) : AOp P ops o F H K := fun w tm Q next h1 h2 hn => by
  unfold wpOp1
  rw [if_pos (by simp [Region.wanted, hg])]
  exact .inl (vc_wp h h1 h2 (fun x => h2.eval [] x) hn)

theorem guardB_spec {j : Nat} {want b : Bool} (h : guardB ops F j want = some b) {w : World} {tm : Array Value} (h2 : RelF w H F tm) : (yielded ops tm j == some want) = b := by
  unfold guardB at h
  split at h
  · rename_i d hd
    split at h <;> try cases h
    · rename_i b' hF
      have hlt : d < tm.size := by rw [← h2.1]; exact (List.getElem?_eq_some_iff.1 hF).1
      have := raw_inv (h2.2 d _ _ hF (Array.getElem?_eq_getElem hlt))
      unfold yielded
      rw [hd, Option.bind_some, Array.getElem?_eq_getElem hlt, this]
      cases b' <;> cases want <;> rfl
    · rename_i g b' hF
      have hlt : d < tm.size := by rw [← h2.1]; exact (List.getElem?_eq_some_iff.1 hF).1
      have hr := h2.2 d _ _ hF (Array.getElem?_eq_getElem hlt)
      unfold yielded
      rw [hd, Option.bind_some, Array.getElem?_eq_getElem hlt]
      cases hr with
      | gd _ _ _ hh hu => cases g with
        | true =>
          have := raw_inv (hh rfl)
          rw [this]
          cases b' <;> cases want <;> rfl
        | false => rw [hu rfl]; rfl
  · cases h

theorem evG_rel {w : World} {tm : Array Value} (h2 : RelF w H F tm) (x : Operand) (ok : (unG (evA F x)).1 = true) : RelV w H (evG F x) ((Act.mk tm []).eval x) := unG_rel (h2.eval [] x) ok

/-- Operands that an operation does not look at may be taken for anything. -/
def evO (F : List AV) (x : Operand) : AV := if (unG (evA F x)).1 = true then evG F x else .any

theorem opt_map_congr {f g : Operand → AV} {o : Option Operand} (h : ∀ x ∈ o.toList, f x = g x) : o.map f = o.map g := by
  cases o with
  | none => rfl
  | some x => simp [h x (by simp)]
theorem vq_congr {ev ev' : Operand → AV} (o : Op) (h : ∀ x ∈ o.operands.toList, ev x = ev' x) : vq P ev H o = vq P ev' H o := by
  cases o
  case call c =>
    obtain ⟨callee, args, ts⟩ := c
    cases callee
    case builtin b =>
      simp only [vq]
      rw [List.map_congr_left (fun x hx => h x (by simpa [Op.operands, Call.operands] using hx))]
    all_goals rfl
  case slice t a lo hi mx =>
    simp only [Op.operands] at h
    simp only [vq]
    rw [h a (by simp), opt_map_congr (o := lo) (fun x hx => h x (by simp at hx ⊢; simp [hx])), opt_map_congr (o := hi) (fun x hx => h x (by simp at hx ⊢; simp [hx])), opt_map_congr (o := mx) (fun x hx => h x (by simp at hx ⊢; simp [hx]))]
  case makeFunc fn a b =>
    simp only [Op.operands] at h
    simp only [vq]
    rw [List.map_congr_left (l := a.toList) (fun x hx => h x (by simp at hx ⊢; simp [hx])), List.map_congr_left (l := b.toList) (fun x hx => h x (by simp at hx ⊢; simp [hx]))]
  case build t ps =>
    simp only [Op.operands] at h
    simp only [vq]
    rw [List.map_congr_left (g := fun p => (p.1, ev' p.2)) (fun x hx => by rw [h x.2 (by simp at hx ⊢; exact ⟨_, hx⟩)])]
  all_goals first
    | rfl
    | (simp only [Op.operands] at h; simp only [vq]; (repeat rw [h _ (by simp)]))


theorem evO_rel {w : World} {tm : Array Value} (h2 : RelF w H F tm) (x : Operand) : RelV w H (evO F x) ((Act.mk tm []).eval x) := by
  unfold evO
  split
  · rename_i h; exact evG_rel h2 x h
  · exact .any _
theorem evO_ok {o : Op} (h : okG F o = true) : ∀ x ∈ o.operands.toList, evO F x = evG F x := fun x hx => by
  unfold evO
  rw [if_pos]
  simp only [okG, List.all_eq_true] at h
  exact h x hx

theorem aop_guard {o : Oper} {j : Nat} {want b : Bool} {K : List AV → Hp → Prop} (hg : o.guard = some (j, want)) (hb : guardB ops F j want = some b)
    (ht : b = true → ∀ w tm (Q : Exit → Act → World → Prop) (next : Act → World → Prop), RelW w H → RelF w H F tm → (∀ tm' w' F' H', K F' H' → RelW w' H' → RelF w' H' F' tm' → Ext w H w' H' → next ⟨tm', []⟩ w') → o.wp P ⟨tm, []⟩ w next Q)
    (hf : b = false → ∃ r, (∀ w, RelV w H r undef) ∧ K (putA F o.dst r) H) : AOp P ops o F H K := fun w tm Q next h1 h2 hn => by
  have hy := guardB_spec hb h2
  unfold wpOp1
  have hw : Region.wanted o (yielded ops (Act.mk tm []).tmps) = b := by
    unfold Region.wanted
    rw [hg]
    exact hy
  cases b with
  | true =>
    rw [if_pos hw]
    exact .inl (ht rfl w tm Q next h1 h2 hn)
  | false =>
    rw [if_neg (by rw [hw]; exact Bool.false_ne_true)]
    obtain ⟨r, hr, hk⟩ := hf rfl
    rw [Act.put_eq]
    exact hn _ w _ H hk h1 (h2.put o.dst (hr w) []) (Ext.refl w H)

theorem gd_rel {r : AV} {g : Bool} (hg : g = false) (w : World) : RelV w H (.gd g r) undef := .gd _ _ _ (fun h => by rw [hg] at h; cases h) (fun _ => rfl)
theorem gd_won {w : World} {r : AV} {v : Value} {g : Bool} (hg : g = true) (h : RelV w H r v) : RelV w H (.gd g r) v := .gd _ _ _ (fun _ => h) (fun h => by rw [hg] at h; cases h)

theorem vcl_sound {K : List AV → Hp → Prop} : ∀ (l : List Oper) (F : List AV) (H : Hp), vcl P ops K l F H → AOps P ops K l F H
  | [], F, H, h => aops_nil h
  | o :: rest, F, H, h => by
    refine aops_cons ?_
    simp only [vcl] at h
    split at h
    · rename_i hg
      exact (aop_vc (K := fun F' H' => vcl P ops K rest F' H') hg h).mono fun F' H' hk => vcl_sound rest F' H' hk
    · rename_i j want hg
      split at h
      · rename_i b hb
        split at h
        · refine AOp.mono (K := fun F' H' => vcl P ops K rest F' H') ?_ fun F' H' hk => vcl_sound rest F' H' hk
          obtain ⟨dst, op, ty, pos, after, guard⟩ := o
          unfold vcG at h
          split at h
          · rename_i f args argTypes heq
            cases heq
            obtain ⟨r, hc, hk⟩ := h
            refine aop_guard hg hb (fun hbw w tm Q next h1 h2 hn => ?_) (fun hbw => ⟨_, gd_rel hbw, hk⟩)
            obtain ⟨ok, hcall⟩ := hc hbw
            have hcg := evO_ok ok
            have e1 : evO F f = evG F f := hcg f (by simp [Op.operands, Call.operands])
            have e2 : args.toList.map (evO F) = args.toList.map (evG F) := List.map_congr_left fun x hx => hcg x (by simp [Op.operands, Call.operands] at hx ⊢; exact .inr hx)
            refine call_sound (ev := evO F) e1 e2 hcall h1 (evO_rel h2) fun v r' w' H' hR g1 g2 g3 => ?_
            obtain ⟨rfl, rfl⟩ := hR
            rw [Act.put_eq]
            exact hn _ w' _ H' hk g1 ((h2.ext g3).put dst (gd_won hbw g2) []) g3
          · rename_i c x y heq
            simp only at heq
            subst heq
            obtain ⟨hs, hk⟩ := h
            refine aop_guard hg hb (fun hbw w tm Q next h1 h2 hn => ?_) (fun hbw => ⟨_, gd_rel hbw, hk⟩)
            obtain ⟨ok, hq⟩ := hs hbw
            obtain ⟨v, hrun, hv⟩ := pick_sound (P := P) (ρ := (Act.mk tm []).eval) (dst := dst) (ty := ty) (pos := pos) (after := after) (guard := guard) (evG_rel h2 c ok) (h2.eval [] x) (h2.eval [] y) hq
            simp only [Oper.wp, hrun, Oper.upon]
            rw [Act.put_eq]
            exact hn _ w _ H hk h1 (h2.put dst (gd_won hbw hv) []) (Ext.refl w H)
          · split at h
            · obtain ⟨hs, hk⟩ := h
              refine aop_guard hg hb (fun hbw w tm Q next h1 h2 hn => ?_) (fun hbw => ⟨_, gd_rel hbw, hk⟩)
              obtain ⟨ok, hq⟩ := hs hbw
              rw [← vq_congr _ (evO_ok ok)] at hq
              obtain ⟨v, hrun, hv⟩ := vq_sound (ρ := (Act.mk tm []).eval) ⟨dst, op, ty, pos, after, guard⟩ h1 (evO_rel h2) hq
              simp only [Oper.wp, hrun, Oper.upon]
              rw [Act.put_eq]
              rw [vq_congr _ (evO_ok ok)] at hv
              exact hn _ w _ H hk h1 (h2.put dst (gd_won hbw hv) []) (Ext.refl w H)
            · exact h.elim
        · refine AOp.mono (K := fun F' H' => vcl P ops K rest F' H') ?_ fun F' H' hk => vcl_sound rest F' H' hk
          refine aop_guard hg hb (fun hbw w tm Q next h1 h2 hn => ?_) (fun hbw => ⟨_, fun w => .any _, h.2 hbw⟩)
          exact vc_wp (h.1 hbw) h1 h2 (fun x => h2.eval [] x) hn
      · exact h.elim

theorem awp_region_vcl {id : Nat} {l : List Oper} {Q : Exit → List AV → Hp → Prop} (h : vcl P l.toArray (Q .normal) l F H) : AWP P (.region id l.toArray false) Q F H :=
  awp_region (by simpa using vcl_sound l F H h)

-- the results of a body

/-- The results of a body, of slots or of cells. -/
def ares (P : Program) (H : Hp) (F : List AV) : List ResultVar → Option (List AV)
  | [] => some []
  | .tmp t :: rest => (ares P H F rest).map (F.getD t .any :: ·)
  | .cell a t :: rest => match cellsAt H (F.getD a .any), isAggT P t, szOf P t with
    | some cs, some ag, some k => if k ≤ cs.length ∧ 1 ≤ cs.length then (ares P H F rest).map (loaded ag k cs :: ·) else none
    | _, _, _ => none
def aresult : List AV → AV
  | [r] => r
  | rs => .tup rs

def resF (tm : Array Value) : ResultVar → Sem Value
  | .tmp t => pure (tm.getD t undef)
  | .cell a t => do loadVar t (← asAddr (tm.getD a undef))
theorem results_eq (fn : Func) (tm : Array Value) : results fn tm = (do let vs ← fn.results.mapM (resF tm); pure (if h : vs.size = 1 then vs[0] else .tuple vs)) := rfl

theorem ares_run {w : World} {tm : Array Value} (hw : RelW w H) (h2 : RelF w H F tm) : ∀ (rs : List ResultVar) (out : List AV), ares P H F rs = some out →
    ∃ vs : List Value, RelL w H out vs ∧ (rs.mapM (resF tm)).run P w = .ok vs w
  | [], out, h => by
    simp [ares] at h
    subst h
    exact ⟨[], ⟨rfl, fun i a v ha => by simp at ha⟩, by simp⟩
  | .tmp t :: rest, out, h => by
    simp only [ares, Option.map_eq_some_iff] at h
    obtain ⟨l, hl, rfl⟩ := h
    obtain ⟨vs, hrel, hrun⟩ := ares_run hw h2 rest l hl
    refine ⟨tm.getD t undef :: vs, ⟨by simp [hrel.1], fun i a v ha hv => ?_⟩, ?_⟩
    · cases i with
      | zero =>
        simp only [List.getElem?_cons_zero, Option.some.injEq] at ha hv
        subst ha hv
        exact h2.eval [] (.tmp t)
      | succ i => exact hrel.2 i a v (by simpa using ha) (by simpa using hv)
    · rw [List.mapM_cons]
      simp only [resF, Sem.run_bind, Sem.run_pure, Result.andThen_ok]
      rw [hrun]
      rfl
  | .cell ad t :: rest, out, h => by
    simp only [ares] at h
    split at h
    · rename_i cs ag k e1 e2 e3
      split at h
      · rename_i hk
        simp only [Option.map_eq_some_iff] at h
        obtain ⟨l, hl, rfl⟩ := h
        obtain ⟨vs, hrel, hrun⟩ := ares_run hw h2 rest l hl
        obtain ⟨addr, us, hv, hcell, hr⟩ := cellsAt_rel (h2.eval [] (.tmp ad)) hw e1
        obtain ⟨v, hload, hvr⟩ := loadVar_sound (P := P) e2 e3 hk.1 hk.2 hcell hr
        have hv' : tm.getD ad undef = .pointer (some addr) := hv
        refine ⟨v :: vs, ⟨by simp [hrel.1], fun i a u ha hu => ?_⟩, ?_⟩
        · cases i with
          | zero =>
            simp only [List.getElem?_cons_zero, Option.some.injEq] at ha hu
            subst ha hu
            exact hvr
          | succ i => exact hrel.2 i a u (by simpa using ha) (by simpa using hu)
        · rw [List.mapM_cons]
          have ha : (asAddr (tm.getD ad undef)).run P w = .ok addr w := by rw [hv']; rfl
          have hf : (resF tm (.cell ad t)).run P w = .ok v w := by simp only [resF, Sem.run_bind, ha, hload, Result.andThen_ok]
          simp only [Sem.run_bind, hf, hrun, Sem.run_pure, Result.andThen_ok]
      · cases h
    · cases h

theorem results_run {fn : Func} {w : World} {tm : Array Value} {out : List AV} (hw : RelW w H) (h2 : RelF w H F tm) (h : ares P H F fn.results.toList = some out) : ∃ v, (results fn tm).run P w = .ok v w ∧ RelV w H (aresult out) v := by
  obtain ⟨vs, hrel, hrun⟩ := ares_run (P := P) hw h2 _ out h
  have hm : (fn.results.mapM (resF tm)).run P w = .ok vs.toArray w := by
    rw [Array.mapM_eq_mapM_toList]
    simp only [Sem.run_map, hrun, Result.andThen_ok]
  have hr : (results fn tm).run P w = .ok (if h : vs.toArray.size = 1 then vs.toArray[0] else .tuple vs.toArray) w := by
    rw [results_eq]
    simp only [Sem.run_bind, hm, Result.andThen_ok, Sem.run_pure]
  refine ⟨_, hr, ?_⟩
  match vs, out, hrel with
  | [], [], hrel => exact .tup _ _ rfl fun i a v ha => by simp at ha
  | [v], [a], hrel => exact hrel.2 0 _ _ rfl rfl
  | v :: v' :: vs, a :: a' :: out, hrel => exact .tup _ _ (by have := hrel.1; simpa using this) fun i x y hx hy => hrel.2 i x y hx (by simpa using hy)
  | [], _ :: _, hrel => have := hrel.1; simp at this
  | _ :: _, [], hrel => have := hrel.1; simp at this
  | [_], _ :: _ :: _, hrel => have := hrel.1; simp at this
  | _ :: _ :: _, [_], hrel => have := hrel.1; simp at this

/-- A function entered. -/
def ARet (P : Program) (fn : Func) (R : AV → Hp → Prop) : Exit → List AV → Hp → Prop
  | .normal, F, H | .ret, F, H => ∃ out r H', ares P H F fn.results.toList = some out ∧ RLe (aresult out) H r H' ∧ R r H'
  | _, _, _ => False

theorem acalls_of {f : FuncId} {fn : Func} {c : Code} {args : List AV} {R : AV → Hp → Prop} (hf : P.funcs[f]? = some fn) (hb : fn.body = some c) (h : AWP P c (ARet P fn R) (args ++ List.replicate (fn.ntmps - args.length) .any) H) :
    ACalls P f args H R := fun w vs h1 h2 => by
  have hlen : args.length = vs.size := h2.1
  refine calls_of_wp hf hb (wp_mono (h w _ h1 ?_) ?_)
  · refine ⟨by simp [hlen], fun i a v ha hv => ?_⟩
    rcases Nat.lt_or_ge i args.length with hi | hi
    · rw [List.getElem?_append_left hi] at ha
      rw [Array.getElem?_append_left (by omega)] at hv
      exact h2.2 i a v ha hv
    · rw [List.getElem?_append_right hi] at ha
      rw [List.getElem?_replicate] at ha
      split at ha <;> cases ha
      exact .any _
  · rintro e a w' ⟨tm, F', H', rfl, hq, g1, g2, g3⟩
    cases e with
    | normal =>
      obtain ⟨out, r, H'', e1, e2, e3⟩ := hq
      obtain ⟨v, hrun, hv⟩ := results_run g1 g2 e1
      obtain ⟨k1, k2, k3⟩ := e2 w' v g1 hv
      exact ⟨rfl, v, hrun, v, r, H'', rfl, e3, k1, k2, g3.trans k3⟩
    | ret =>
      obtain ⟨out, r, H'', e1, e2, e3⟩ := hq
      obtain ⟨v, hrun, hv⟩ := results_run g1 g2 e1
      obtain ⟨k1, k2, k3⟩ := e2 w' v g1 hv
      exact ⟨rfl, v, hrun, v, r, H'', rfl, e3, k1, k2, g3.trans k3⟩
    | exit id => exact hq.elim
    | goto l => exact hq.elim
    | panic ch => exact hq.elim
    | outgrown => exact hq.elim

end
end Go.Fc

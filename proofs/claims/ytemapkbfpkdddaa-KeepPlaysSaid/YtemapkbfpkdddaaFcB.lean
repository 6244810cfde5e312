/- The rules of the walks over abstract states: code, loops, calls. No conditions. -/
import Derived.Test.YtemapkbfpkdddaaFcA
import Derived.Orders
import Derived.Scope
set_option linter.all false
namespace Go.Fc
open Go

def Post (Q : Exit → List AV → Hp → Prop) (w : World) (H : Hp) : Exit → Act → World → Prop := fun e a w' =>
  ∃ tm F' H', a = ⟨tm, []⟩ ∧ Q e F' H' ∧ RelW w' H' ∧ RelF w' H' F' tm ∧ Ext w H w' H'

def AWP (P : Program) (c : Code) (Q : Exit → List AV → Hp → Prop) (F : List AV) (H : Hp) : Prop :=
  ∀ w tm, RelW w H → RelF w H F tm → Code.wp P c (Post Q w H) ⟨tm, []⟩ w

/-- A state that says less. -/
def FLe (F : List AV) (H : Hp) (F' : List AV) (H' : Hp) : Prop := ∀ w tm, RelW w H → RelF w H F tm → RelW w H' ∧ RelF w H' F' tm ∧ Ext w H w H'
theorem FLe.refl (F : List AV) (H : Hp) : FLe F H F H := fun w _tm h1 h2 => ⟨h1, h2, Ext.refl w H⟩
theorem FLe.trans {F F' F'' : List AV} {H H' H'' : Hp} (h : FLe F H F' H') (k : FLe F' H' F'' H'') : FLe F H F'' H'' := fun w tm h1 h2 => by
  obtain ⟨a, b, c⟩ := h w tm h1 h2
  obtain ⟨a', b', c'⟩ := k w tm a b
  exact ⟨a', b', c.trans c'⟩
theorem FLe.drop (F : List AV) {H H' : Hp} (h : H'.Sub H) : FLe F H F H' := fun w _ h1 h2 => ⟨h1.drop h, h2.ext (Ext.drop h), Ext.drop h⟩

def LLe : List AV → List AV → Prop
  | [], [] => True
  | a :: l, b :: m => (b = .any ∨ a = b) ∧ LLe l m
  | _, _ => False
theorem LLe.refl : ∀ l, LLe l l
  | [] => trivial
  | _ :: l => ⟨.inr rfl, LLe.refl l⟩
theorem LLe.get : ∀ {l m : List AV}, LLe l m → l.length = m.length ∧ ∀ (i : Nat) a b, l[i]? = some a → m[i]? = some b → b = .any ∨ a = b
  | [], [], _ => ⟨rfl, fun i a b h => by simp at h⟩
  | x :: l, y :: m, h => by
    have ih := LLe.get h.2
    refine ⟨by simp [ih.1], fun i a b ha hb => ?_⟩
    cases i with
    | zero => simp at ha hb; subst ha hb; exact h.1
    | succ i => exact ih.2 i a b (by simpa using ha) (by simpa using hb)
theorem FLe.pt {F F' : List AV} (H : Hp) (h : LLe F F') : FLe F H F' H := fun w tm h1 h2 => by
  obtain ⟨hl, hg⟩ := h.get
  refine ⟨h1, ⟨hl.symm.trans h2.1, fun i a v ha hv => ?_⟩, Ext.refl w H⟩
  have hi : i < F.length := by rw [hl]; exact (List.getElem?_eq_some_iff.1 ha).1
  rcases hg i F[i] a (List.getElem?_eq_getElem hi) ha with rfl | he
  · exact .any v
  · exact he ▸ h2.2 i _ v (List.getElem?_eq_getElem hi) hv
theorem FLe.ptd {F F' : List AV} {H H' : Hp} (h : LLe F F') (hs : H'.Sub H) : FLe F H F' H' := (FLe.pt H h).trans (FLe.drop _ hs)

/-- Slots from lo on, n of them, are let go of. -/
def maskR (lo n : Nat) (F : List AV) : List AV := F.take lo ++ List.replicate n .any ++ F.drop (lo + n)
def mask (W : List (Nat × Nat)) (F : List AV) : List AV := W.foldl (fun F d => maskR d.1 d.2 F) F

section
variable {P : Program} {Q Q' : Exit → List AV → Hp → Prop} {F : List AV} {H : Hp}

theorem Post.weak {w w' : World} {H H' : Hp} (e : Ext w H w' H') {x : Exit} {a : Act} {w'' : World} (h : Post Q w' H' x a w'') : Post Q w H x a w'' := by
  obtain ⟨tm, F', H'', h1, h2, h3, h4, h5⟩ := h
  exact ⟨tm, F', H'', h1, h2, h3, h4, e.trans h5⟩

theorem awp_mono {c : Code} (h : AWP P c Q F H) (hq : ∀ e F H, Q e F H → Q' e F H) : AWP P c Q' F H := fun w tm h1 h2 =>
  wp_mono (h w tm h1 h2) fun _ _ _ ⟨tm, F', H', a, b, c⟩ => ⟨tm, F', H', a, hq _ _ _ b, c⟩
theorem awp_weak {c : Code} {F' : List AV} {H' : Hp} (hl : FLe F H F' H') (h : AWP P c Q F' H') : AWP P c Q F H := fun w tm h1 h2 => by
  obtain ⟨a, b, e⟩ := hl w tm h1 h2
  exact wp_mono (h w tm a b) fun _ _ _ hp => hp.weak e

def AThen (next : List AV → Hp → Prop) (Q : Exit → List AV → Hp → Prop) : Exit → List AV → Hp → Prop
  | .normal, F, H => next F H
  | e, F, H => Q e F H
def ABlock (id : Nat) (Q : Exit → List AV → Hp → Prop) : Exit → List AV → Hp → Prop
  | .exit id', F, H => if id' = id then Q .normal F H else Q (.exit id') F H
  | e, F, H => Q e F H

theorem awp_seq {x y : Code} (h : AWP P x (AThen (AWP P y Q) Q) F H) : AWP P (.seq x y) Q F H := fun w tm h1 h2 => by
  refine wp_seq (wp_mono (h w tm h1 h2) ?_)
  rintro e a w' ⟨tm', F', H', rfl, hq, h3, h4, h5⟩
  cases e with
  | normal => exact wp_mono (hq w' tm' h3 h4) fun _ _ _ hp => hp.weak h5
  | exit id => exact ⟨tm', F', H', rfl, hq, h3, h4, h5⟩
  | goto l => exact ⟨tm', F', H', rfl, hq, h3, h4, h5⟩
  | ret => exact ⟨tm', F', H', rfl, hq, h3, h4, h5⟩
  | panic ch => exact ⟨tm', F', H', rfl, hq, h3, h4, h5⟩
  | outgrown => exact ⟨tm', F', H', rfl, hq, h3, h4, h5⟩
theorem awp_seq_k {x y : Code} (h : ∀ K : List AV → Hp → Prop, (∀ F H, AWP P y Q F H → K F H) → AWP P x (AThen K Q) F H) : AWP P (.seq x y) Q F H := awp_seq (h _ fun _ _ h => h)

theorem awp_skip (h : Q .normal F H) : AWP P .skip Q F H := fun w tm h1 h2 => wp_skip ⟨tm, F, H, rfl, h, h1, h2, Ext.refl w H⟩
theorem awp_label {l : Nat} (h : Q .normal F H) : AWP P (.label l) Q F H := fun w tm h1 h2 => wp_label ⟨tm, F, H, rfl, h, h1, h2, Ext.refl w H⟩
theorem awp_exit {id : Nat} (h : Q (.exit id) F H) : AWP P (.exit id) Q F H := fun w tm h1 h2 => wp_exit ⟨tm, F, H, rfl, h, h1, h2, Ext.refl w H⟩
theorem awp_ret (h : Q .ret F H) : AWP P .ret Q F H := fun w tm h1 h2 => wp_ret ⟨tm, F, H, rfl, h, h1, h2, Ext.refl w H⟩

theorem awp_cond {c : Operand} {x y : Code} {b : Bool} (hc : evA F c = .raw (.bool b)) (ht : b = true → AWP P x Q F H) (hf : b = false → AWP P y Q F H) : AWP P (.cond c x y) Q F H := fun w tm h1 h2 => by
  have he := h2.eval [] c
  rw [hc] at he
  generalize hv : (Act.mk tm []).eval c = v at he
  cases he
  exact wp_cond_split hv (fun h => ht h w tm h1 h2) (fun h => hf h w tm h1 h2)
theorem awp_cond_true {c : Operand} {x y : Code} (hc : evA F c = .raw (.bool true)) (h : AWP P x Q F H) : AWP P (.cond c x y) Q F H := awp_cond hc (fun _ => h) (fun e => by cases e)
theorem awp_cond_false {c : Operand} {x y : Code} (hc : evA F c = .raw (.bool false)) (h : AWP P y Q F H) : AWP P (.cond c x y) Q F H := awp_cond hc (fun e => by cases e) (fun _ => h)

theorem awp_block {id : Nat} {c : Code} (h : AWP P c (ABlock id Q) F H) : AWP P (.block id c) Q F H := fun w tm h1 h2 => by
  refine wp_block (wp_mono (h w tm h1 h2) ?_)
  rintro e a w' ⟨tm', F', H', rfl, hq, h3, h4, h5⟩
  cases e with
  | normal => exact ⟨tm', F', H', rfl, hq, h3, h4, h5⟩
  | exit id' =>
    simp only [ABlock] at hq
    simp only [Exit.inBlock]
    split <;> rename_i hid
    · rw [if_pos hid] at hq; exact ⟨tm', F', H', rfl, hq, h3, h4, h5⟩
    · rw [if_neg hid] at hq; exact ⟨tm', F', H', rfl, hq, h3, h4, h5⟩
  | goto l => exact ⟨tm', F', H', rfl, hq, h3, h4, h5⟩
  | ret => exact ⟨tm', F', H', rfl, hq, h3, h4, h5⟩
  | panic ch => exact ⟨tm', F', H', rfl, hq, h3, h4, h5⟩
  | outgrown => exact ⟨tm', F', H', rfl, hq, h3, h4, h5⟩

theorem awp_scope {c : Code} (h : AWP P c (fun e F H => (∀ l, e ≠ .goto l) ∧ Q e F H) F H) : AWP P (.scope c) Q F H := fun w tm h1 h2 => by
  refine wp_scope_straight (wp_mono (h w tm h1 h2) ?_)
  rintro e a w' ⟨tm', F', H', rfl, ⟨hg, hq⟩, h3, h4, h5⟩
  cases e with
  | goto l => exact (hg l rfl).elim
  | normal => exact ⟨tm', F', H', rfl, hq, h3, h4, h5⟩
  | exit id => exact ⟨tm', F', H', rfl, hq, h3, h4, h5⟩
  | ret => exact ⟨tm', F', H', rfl, hq, h3, h4, h5⟩
  | panic ch => exact ⟨tm', F', H', rfl, hq, h3, h4, h5⟩
  | outgrown => exact ⟨tm', F', H', rfl, hq, h3, h4, h5⟩

/-- A loop: a relation between a state of one's own and the walk's, that every round keeps while a number goes down. -/
theorem awp_loop {S : Type} {c : Code} (I : S → List AV → Hp → Prop) (μ : S → Nat) (s₀ : S) {F₀ : List AV} {H₀ : Hp} (hle : FLe F H F₀ H₀) (h₀ : I s₀ F₀ H₀)
    (round : ∀ s F H, I s F H → AWP P c (AThen (fun F' H' => ∃ s' F'' H'', μ s' < μ s ∧ FLe F' H' F'' H'' ∧ I s' F'' H'') Q) F H) : AWP P (.loop c) Q F H := fun w tm h1 h2 => by
  obtain ⟨h1, h2, e0⟩ := hle w tm h1 h2
  refine wp_loop_ghost (fun n a w' => ∃ s F' H' tm', μ s = n ∧ I s F' H' ∧ a = ⟨tm', []⟩ ∧ RelW w' H' ∧ RelF w' H' F' tm' ∧ Ext w H w' H') (μ s₀) ⟨s₀, F₀, H₀, tm, rfl, h₀, rfl, h1, h2, e0⟩ ?_
  rintro n a w' ⟨s, F', H', tm', rfl, hI, rfl, h3, h4, h5⟩
  refine wp_mono (round s F' H' hI w' tm' h3 h4) ?_
  rintro e a w'' ⟨tm'', F'', H'', rfl, hq, h6, h7, h8⟩
  cases e with
  | normal =>
    obtain ⟨s', F3, H3, hlt, hl, hI'⟩ := hq
    obtain ⟨g1, g2, g3⟩ := hl w'' tm'' h6 h7
    exact ⟨μ s', hlt, s', F3, H3, tm'', rfl, hI', rfl, g1, g2, (h5.trans h8).trans g3⟩
  | exit id => exact ⟨tm'', F'', H'', rfl, hq, h6, h7, h5.trans h8⟩
  | goto l => exact ⟨tm'', F'', H'', rfl, hq, h6, h7, h5.trans h8⟩
  | ret => exact ⟨tm'', F'', H'', rfl, hq, h6, h7, h5.trans h8⟩
  | panic ch => exact ⟨tm'', F'', H'', rfl, hq, h6, h7, h5.trans h8⟩
  | outgrown => exact ⟨tm'', F'', H'', rfl, hq, h6, h7, h5.trans h8⟩
end

-- regions

def wpOp1 (P : Program) (ops : Array Oper) (Q : Exit → Act → World → Prop) (o : Oper) (next : Act → World → Prop) (a : Act) (w : World) : Prop :=
  if Region.wanted o (yielded ops a.tmps) then o.wp P a w next Q ∨ (o.asks P a w ∧ LetsOut Q) else next (a.put o.dst undef) w

/-- One operation, whatever follows. -/
def AOp (P : Program) (ops : Array Oper) (o : Oper) (F : List AV) (H : Hp) (K : List AV → Hp → Prop) : Prop :=
  ∀ w tm (Q : Exit → Act → World → Prop) (next : Act → World → Prop), RelW w H → RelF w H F tm →
    (∀ tm' w' F' H', K F' H' → RelW w' H' → RelF w' H' F' tm' → Ext w H w' H' → next ⟨tm', []⟩ w') → wpOp1 P ops Q o next ⟨tm, []⟩ w

/-- Operations in the order of the text. -/
def AOps (P : Program) (ops : Array Oper) (K : List AV → Hp → Prop) (l : List Oper) (F : List AV) (H : Hp) : Prop :=
  ∀ w tm (Q : Exit → Act → World → Prop), RelW w H → RelF w H F tm →
    (∀ tm' w' F' H', K F' H' → RelW w' H' → RelF w' H' F' tm' → Ext w H w' H' → Q .normal ⟨tm', []⟩ w') → wpList P ops Q l ⟨tm, []⟩ w

section
variable {P : Program} {ops : Array Oper} {F : List AV} {H : Hp} {K : List AV → Hp → Prop}

theorem AOp.mono {o : Oper} {K' : List AV → Hp → Prop} (h : AOp P ops o F H K) (hk : ∀ F H, K F H → K' F H) : AOp P ops o F H K' :=
  fun w tm Q next h1 h2 hn => h w tm Q next h1 h2 fun tm' w' F' H' k => hn tm' w' F' H' (hk _ _ k)

theorem aops_nil (h : K F H) : AOps P ops K [] F H := fun w tm Q h1 h2 hq => hq tm w F H h h1 h2 (Ext.refl w H)
theorem aops_cons {o : Oper} {rest : List Oper} (h : AOp P ops o F H (AOps P ops K rest)) : AOps P ops K (o :: rest) F H := fun w tm Q h1 h2 hq => by
  have := h w tm Q (wpList P ops Q rest) h1 h2 fun tm' w' F' H' k g1 g2 g3 => k w' tm' Q g1 g2 fun tm'' w'' F'' H'' k' g4 g5 g6 => hq tm'' w'' F'' H'' k' g4 g5 (g3.trans g6)
  simpa only [wpOp1, wpList] using this

theorem awp_region {id : Nat} {Q : Exit → List AV → Hp → Prop} (h : AOps P ops (Q .normal) ops.toList F H) : AWP P (.region id ops false) Q F H := fun w tm h1 h2 =>
  wp_region_list (h w tm (Post Q w H) h1 h2 fun tm' w' F' H' k g1 g2 g3 => ⟨tm', F', H', rfl, k, g1, g2, g3⟩)

/-- What an operation's own run gives. -/
def AVal (P : Program) (o : Oper) (F : List AV) (H : Hp) (K : AV → Hp → Prop) : Prop :=
  ∀ w tm, RelW w H → RelF w H F tm → ∃ w' H' r, K r H' ∧ RelW w' H' ∧ Ext w H w' H' ∧
    ((∃ v, (execOp (Act.mk tm []).eval o).run P w = .ok (.value v) w' ∧ RelV w' H' r v) ∨ ((execOp (Act.mk tm []).eval o).run P w = .ok .skip w' ∧ r = .any))

theorem aop_val_wanted {o : Oper} (h : AVal P o F H (fun r H' => K (putA F o.dst r) H')) {w : World} {tm : Array Value} {Q : Exit → Act → World → Prop} {next : Act → World → Prop} (h1 : RelW w H) (h2 : RelF w H F tm)
    (hn : ∀ tm' w' F' H', K F' H' → RelW w' H' → RelF w' H' F' tm' → Ext w H w' H' → next ⟨tm', []⟩ w') : o.wp P ⟨tm, []⟩ w next Q := by
  obtain ⟨w', H', r, hk, g1, g2, g3⟩ := h w tm h1 h2
  rcases g3 with ⟨v, hr, hv⟩ | ⟨hr, rfl⟩
  · simp only [Oper.wp, hr, Oper.upon]
    rw [Act.put_eq]
    exact hn _ w' _ H' hk g1 ((h2.ext g2).put o.dst hv []) g2
  · simp only [Oper.wp, hr, Oper.upon]
    rw [Act.put_eq]
    exact hn _ w' _ H' hk g1 ((h2.ext g2).put o.dst (.any _) []) g2

theorem aop_val {o : Oper} (hg : o.guard = none) (h : AVal P o F H (fun r H' => K (putA F o.dst r) H')) : AOp P ops o F H K := fun w tm Q next h1 h2 hn => by
  unfold wpOp1
  rw [if_pos (by simp [Region.wanted, hg])]
  exact .inl (aop_val_wanted h h1 h2 hn)
end

-- calls

def ACalls (P : Program) (f : FuncId) (args : List AV) (H : Hp) (R : AV → Hp → Prop) : Prop :=
  ∀ w vs, RelW w H → RelF w H args vs → Calls P f vs w fun e w' => ∃ v r H', e = .returned v ∧ R r H' ∧ RelW w' H' ∧ RelV w' H' r v ∧ Ext w H w' H'

theorem ACalls.mono {P : Program} {f : FuncId} {args : List AV} {H : Hp} {R R' : AV → Hp → Prop} (h : ACalls P f args H R) (hr : ∀ r H', R r H' → R' r H') : ACalls P f args H R' :=
  fun w vs h1 h2 => (h w vs h1 h2).mono fun _ _ ⟨v, r, H', e, k, g⟩ => ⟨v, r, H', e, hr _ _ k, g⟩

/-- A result that says less. -/
def RLe (r : AV) (H : Hp) (r' : AV) (H' : Hp) : Prop := ∀ w v, RelW w H → RelV w H r v → RelW w H' ∧ RelV w H' r' v ∧ Ext w H w H'
theorem RLe.refl (r : AV) (H : Hp) : RLe r H r H := fun w _ h1 h2 => ⟨h1, h2, Ext.refl w H⟩
theorem RLe.trans {a b c : AV} {H H' H'' : Hp} (h : RLe a H b H') (k : RLe b H' c H'') : RLe a H c H'' := fun w v h1 h2 => by
  obtain ⟨x, y, z⟩ := h w v h1 h2
  obtain ⟨x', y', z'⟩ := k w v x y
  exact ⟨x', y', z.trans z'⟩
theorem RLe.drop (r : AV) {H H' : Hp} (h : H'.Sub H) : RLe r H r H' := fun _ _ h1 h2 => ⟨h1.drop h, h2.ext (Ext.drop h), Ext.drop h⟩
theorem RLe.of_eq {r r' : AV} (H : Hp) (h : r = r') : RLe r H r' H := h ▸ RLe.refl r H

end Go.Fc

/- The plain law of the document's checker: an error is noted at a node. The document's checker: from a source. The plain law of the document's checker: what types are noted. The plain law of the document's checker: what types are noted, by statements and functions. The plain law of the document's checker: what a checked program is. No conditions. -/
import Derived.Test.YtbpmikjlfgfbmaaGreatDoorCk8
set_option linter.all false
namespace Go.Proofs.YtbpmikjlfgfbmaaGreatDoor
open Go Go.Gd
/-- A node's place. -/
def isN (t : GTree) (a : Int) : Prop := 0 ≤ a ∧ a < t.nodes.length
def AtOk (c : Ck) : Prop := c.e = 0 ∨ c.e = 44 ∨ isN c.tree c.at_
/-- A step that keeps the tree, and notes errors at nodes. -/
def Kp (t : GTree) (c c' : Ck) : Prop := c.tree = t → c'.tree = t ∧ (AtOk c → AtOk c')
theorem Kp.refl (t : GTree) (c : Ck) : Kp t c c := fun h => ⟨h, id⟩
theorem Kp.trans {t : GTree} {a b c : Ck} (h : Kp t a b) (k : Kp t b c) : Kp t a c := fun e => ⟨(k (h e).1).1, fun x => (k (h e).1).2 ((h e).2 x)⟩
theorem kp_same {t : GTree} {c c' : Ck} (h1 : c'.tree = c.tree) (h2 : c'.e = c.e) (h3 : c'.at_ = c.at_) : Kp t c c' := fun e => ⟨h1.trans e, fun h => by unfold AtOk at *; rw [h1, h2, h3]; exact h⟩
theorem kp_fails {t : GTree} (c : Ck) (e : Int) {a : Int} (ha : isN t a) : Kp t c (c.fails e a) := fun ht => by
  unfold Ck.fails
  split
  · refine ⟨ht, fun _ => .inr (.inr ?_)⟩
    show isN c.tree a
    rw [ht]; exact ha
  · exact ⟨ht, id⟩
theorem kp_must {t : GTree} (c : Ck) (b : Bool) {a : Int} (ha : isN t a) : Kp t c (c.must b a) := by
  unfold Ck.must
  split
  · exact .refl t c
  · exact kp_fails c 42 ha
theorem kp_named {t : GTree} (c : Ck) {a : Int} (ha : isN t a) : Kp t c (c.named a).1 := by
  unfold Ck.named
  split
  · exact kp_fails c 40 ha
  · exact kp_same rfl rfl rfl
theorem nth_out {α : Type} [Inhabited α] {l : List α} {i : Nat} (h : l.length ≤ i) : nth l i = default := by simp [nth, List.getD_eq_getElem?_getD, List.getElem?_eq_none h]
theorem isN_kid {t : GTree} (h : TreeOk t) {c : Ck} (hc : c.tree = t) {a : Int} (ha : isN t a) (i : Nat) : isN t (c.kid a i) := by
  obtain ⟨h0, h1⟩ := ha
  unfold Ck.kid Ck.node
  rw [hc]
  by_cases hi : i < (nth t.nodes a.toNat).l.length
  · have := (h.shape a.toNat (by omega)).2.1 _ (nth_mem hi)
    unfold isN
    omega
  · have : nth (nth t.nodes a.toNat).l i = 0 := nth_out (Nat.le_of_not_lt hi)
    rw [this]
    unfold isN
    omega
theorem isN_all {t : GTree} (h : TreeOk t) {c : Ck} (hc : c.tree = t) {a : Int} (ha : isN t a) : ∀ x ∈ (c.node a).l, isN t x := fun x hx => by
  obtain ⟨h0, h1⟩ := ha
  unfold Ck.node at hx
  rw [hc] at hx
  have := (h.shape a.toNat (by omega)).2.1 _ hx
  unfold isN
  omega
theorem kp_args {t : GTree} {ex : Ck → Int → Ck × Int} (hex : ∀ c a, isN t a → Kp t c (ex c a).1) : ∀ (l : List Int) (c : Ck) (ts : List Int), (∀ x ∈ l, isN t x) → Kp t c (argsK ex c l ts).1
  | [], c, ts, _ => by unfold argsK; exact .refl t c
  | a :: l, c, ts, hl => by
    unfold argsK
    split
    · exact (hex c a (hl a (by simp))).trans (kp_args hex l _ _ fun x hx => hl x (by simp [hx]))
    · exact .refl t c
theorem kp_types {t : GTree} {a : Int} (ha : isN t a) : ∀ (ts : List Int) (ps : List GParam) (c : Ck), Kp t c (typesK a c ts ps)
  | [], ps, c => by rw [types_nil1]; exact .refl t c
  | _ :: _, [], c => by rw [types_nil2]; exact .refl t c
  | x :: ts, p :: ps, c => by
    unfold typesK
    split
    · exact (kp_must c _ ha).trans (kp_types ha ts ps _)
    · exact .refl t c
theorem kp_call {t : GTree} (h : TreeOk t) {ex : Ck → Int → Ck × Int} (hex : ∀ c a, isN t a → Kp t c (ex c a).1) (c : Ck) {a : Int} (ha : isN t a) : Kp t c (callK ex c a).1 := fun hc => by
  refine (show Kp t c (callK ex c a).1 from ?_) hc
  unfold callK
  split
  · exact kp_fails c 40 ha
  · refine Kp.trans ?_ (kp_types ha _ _ _)
    split
    · exact (kp_args hex _ _ _ (isN_all h hc ha)).trans (kp_fails _ 43 ha)
    · exact kp_args hex _ _ _ (isN_all h hc ha)
theorem kp_tells {t : GTree} (h : TreeOk t) {ex : Ck → Int → Ck × Int} (hex : ∀ c a, isN t a → Kp t c (ex c a).1) (c : Ck) {a : Int} (ha : isN t a) : Kp t c (tellsK ex c a).1 := fun hc => by
  have k0 := isN_kid h hc ha 0
  have k1 := isN_kid h hc ha 1
  refine (show Kp t c (tellsK ex c a).1 from ?_) hc
  unfold tellsK
  simp only
  repeat' split
  all_goals first
    | exact .refl t c
    | exact kp_named c ha
    | exact kp_call h hex c ha
    | exact ((kp_named c ha).trans (hex _ _ k0)).trans (kp_must _ _ ha)
    | exact ((hex c _ k0).trans (hex _ _ k1)).trans (kp_must _ _ ha)
    | exact (hex c _ k0).trans (kp_must _ _ ha)
theorem kp_expr {t : GTree} (h : TreeOk t) : ∀ (n : Nat) (c : Ck) (a : Int), isN t a → Kp t c (exprK n c a).1
  | 0, c, a, ha => by unfold exprK; exact .refl t c
  | n + 1, c, a, ha => by
    unfold exprK
    split
    · exact .refl t c
    · exact (kp_tells h (kp_expr h n) c ha).trans (kp_same rfl rfl rfl)
theorem kp_let {t : GTree} (h : TreeOk t) {ex : Ck → Int → Ck × Int} (hex : ∀ c a, isN t a → Kp t c (ex c a).1) (c : Ck) {a : Int} (ha : isN t a) : Kp t c (letK ex c a) := fun hc => by
  have k0 := isN_kid h hc ha 0
  refine (show Kp t c (letK ex c a) from ?_) hc
  rw [let_eq]
  have kA : Kp t c (letA ex c a) := (hex c _ k0).trans (kp_must _ _ ha)
  have kB : Kp t c (letB ex c a) := by
    unfold letB
    split
    · exact kA.trans (kp_fails _ 41 ha)
    · exact kA
  have kC : Kp t c (letC ex c a) := by
    unfold letC
    split
    · exact kB.trans (kp_fails _ 4 ha)
    · exact kB
  exact kC.trans (kp_same rfl rfl rfl)
theorem kp_returns {t : GTree} (h : TreeOk t) {ex : Ck → Int → Ck × Int} (hex : ∀ c a, isN t a → Kp t c (ex c a).1) (c : Ck) {a : Int} (ha : isN t a) : Kp t c (returnsK ex c a) := fun hc => by
  have k0 := isN_kid h hc ha 0
  refine (show Kp t c (returnsK ex c a) from ?_) hc
  unfold returnsK
  simp only
  split
  · exact kp_fails c 43 ha
  split
  · exact (hex c _ k0).trans (kp_must _ _ ha)
  · exact .refl t c
theorem kp_stmts {t : GTree} {st : Ck → Int → Ck} (hst : ∀ c a, isN t a → Kp t c (st c a)) : ∀ (l : List Int) (c : Ck), (∀ x ∈ l, isN t x) → Kp t c (stmtsK st c l)
  | [], c, _ => by unfold stmtsK; exact .refl t c
  | a :: l, c, hl => by
    unfold stmtsK
    split
    · exact (hst c a (hl a (by simp))).trans (kp_stmts hst l _ fun x hx => hl x (by simp [hx]))
    · exact .refl t c
theorem kp_block {t : GTree} (h : TreeOk t) {st : Ck → Int → Ck} (hst : ∀ c a, isN t a → Kp t c (st c a)) (c : Ck) {a : Int} (ha : isN t a) : Kp t c (blockK st c a) := fun hc => by
  refine (show Kp t c (blockK st c a) from ?_) hc
  have h1 : Kp t c (c.noteF a) := kp_same rfl rfl rfl
  exact (h1.trans (kp_stmts hst _ _ (isN_all h hc ha))).trans (kp_same rfl rfl rfl)
theorem kp_statement {t : GTree} (h : TreeOk t) : ∀ (n : Nat) (c : Ck) (a : Int), isN t a → Kp t c (statementK n c a)
  | 0, c, a, ha => by unfold statementK; exact .refl t c
  | n + 1, c, a, ha => fun hc => by
    have k0 := isN_kid h hc ha 0
    have k1 := isN_kid h hc ha 1
    have kl := isN_all h hc ha
    refine (show Kp t c (statementK (n + 1) c a) from ?_) hc
    have e0 : Kp t c (c.noteF a) := kp_same rfl rfl rfl
    have hx := kp_expr h n
    unfold statementK
    simp only
    refine e0.trans ?_
    repeat' split
    · exact kp_let h hx _ ha
    · exact ((kp_named _ ha).trans (hx _ _ k0)).trans (kp_must _ _ ha)
    · exact (((kp_named _ ha).trans (hx _ _ k0)).trans (hx _ _ k1)).trans (kp_must _ _ ha)
    · exact hx _ _ k0
    · exact (hx _ _ k0).trans (kp_must _ _ ha)
    · exact kp_returns h hx _ ha
    · exact ((hx _ _ k0).trans (kp_must _ _ ha)).trans (kp_stmts (fun c a ha => kp_block h (kp_statement h n) c ha) _ _ fun x hx' => kl x (List.mem_of_mem_drop hx'))
theorem kp_params {t : GTree} {body : Int} (hb : isN t body) : ∀ (ps : List GParam) (c : Ck) (i : Int), Kp t c (paramsK body c ps i)
  | [], c, i => by unfold paramsK; exact .refl t c
  | p :: ps, c, i => by
    unfold paramsK
    simp only
    refine Kp.trans ?_ (kp_params hb ps _ _)
    split
    · exact (kp_fails c 41 hb).trans (kp_same rfl rfl rfl)
    · exact kp_same rfl rfl rfl
theorem isN_body {t : GTree} (h : TreeOk t) {k : Nat} (hk : k < t.fns.length) : isN t (nth t.fns k).body := by
  have := h.chain.mem (nth t.fns k).body (List.mem_map.2 ⟨_, nth_mem hk, rfl⟩)
  unfold isN
  omega
theorem kp_function {t : GTree} (h : TreeOk t) (c : Ck) {k : Nat} (hk : k < t.fns.length) : Kp t c (functionK c k) := fun hc => by
  refine (show Kp t c (functionK c k) from ?_) hc
  have hb : isN t (nth c.tree.fns k).body := by rw [hc]; exact isN_body h hk
  have h1 : Kp t c (paramsK (nth c.tree.fns k).body { c with fn := (k : Int), vars := [], more := [], size := 0 } (nth c.tree.fns k).params 0) := Kp.trans (b := { c with fn := (k : Int), vars := [], more := [], size := 0 }) (kp_same rfl rfl rfl) (kp_params hb _ _ _)
  unfold functionK
  simp only
  split
  · exact (h1.trans (kp_block h (kp_statement h _) _ hb)).trans (kp_same rfl rfl rfl)
  · exact h1.trans (kp_same rfl rfl rfl)
theorem kp_functions {t : GTree} (h : TreeOk t) : ∀ (n : Nat) (c : Ck) (i : Nat), i + n ≤ t.fns.length → Kp t c (functionsK c i n)
  | 0, c, i, _ => by unfold functionsK; exact .refl t c
  | n + 1, c, i, hi => by
    unfold functionsK
    split
    · exact (kp_function h c (by omega)).trans (kp_functions h n _ _ (by omega))
    · exact .refl t c
theorem kp_twice {t : GTree} {x : GFunc} (hx : isN t x.body) : ∀ (l : List GFunc) (c : Ck), Kp t c (twiceK x c l)
  | [], c => by unfold twiceK; exact .refl t c
  | f :: l, c => by
    unfold twiceK
    refine Kp.trans ?_ (kp_twice hx l _)
    split
    · exact kp_fails c 41 hx
    · exact .refl t c
theorem kp_headsL {t : GTree} (h : TreeOk t) : ∀ (n : Nat) (c : Ck) (m : Bool) (i : Nat), i + n ≤ t.fns.length → Kp t c (headsL t.fns c m i n).1
  | 0, c, m, i, _ => by unfold headsL; exact .refl t c
  | n + 1, c, m, i, hi => by
    unfold headsL
    exact (kp_twice (isN_body h (by omega)) _ _).trans (kp_headsL h n _ _ _ (by omega))
theorem kp_heads {t : GTree} (h : TreeOk t) (c : Ck) : Kp t c (headsK c) := fun hc => by
  have h1 : Kp t c (headsL c.tree.fns c false 0 c.tree.fns.length).1 := by rw [hc]; exact kp_headsL h _ _ _ _ (by omega)
  refine (show Kp t c (headsK c) from ?_) hc
  unfold headsK
  simp only
  split
  · exact h1
  · refine h1.trans fun hq => ?_
    unfold Ck.fails
    split
    · exact ⟨hq, fun _ => .inr (.inl rfl)⟩
    · exact ⟨hq, id⟩
theorem check_at {t : GTree} (h : TreeOk t) : AtOk (ckAll t) ∧ (ckAll t).tree = t := by
  have k : Kp t (ck0 t) (ckAll t) := (kp_heads h (ck0 t)).trans (kp_functions h _ _ _ (by omega))
  exact ⟨(k rfl).2 (.inl rfl), (k rfl).1⟩
end Go.Proofs.YtbpmikjlfgfbmaaGreatDoor

namespace Go.Proofs.YtbpmikjlfgfbmaaGreatDoor
open Go Go.Gd
theorem checkAll_at {t : GTree} (h : TreeOk t) : (checkAll t).2.2 = 0 ∨ (checkAll t).2.2 = 44 ∨ isN t (checkAll t).2.1 := by
  obtain ⟨a, b⟩ := check_at h
  unfold checkAll
  split
  · rcases a with a | a | a
    · exact .inl a
    · exact .inr (.inl a)
    · rw [b] at a; exact .inr (.inr a)
  · exact .inl rfl
set_option maxHeartbeats 4000000 in
set_option maxRecDepth 10000 in
theorem source_c (s : ByteArray) (hs : s.size ≤ 1000000) : PCall Tryz.prog 9 [rS s] (.tup [.agg (eGProg (sourceF s).1), rI (sourceF s).2.1, rI (sourceF s).2.2]) := by
  have hp := parse_c s hs
  by_cases h1 : (parseAll s).2.2 = 0
  · have ht := parse_ok h1
    have hk := kall_c (parseAll s).1 ht
    have hat := checkAll_at ht
    by_cases h2 : (checkAll (parseAll s).1).2.2 = 44
    · have e : sourceF s = (prog0, 0, 44) := by unfold sourceF; rw [if_neg (fun h => h h1)]; simp only; rw [if_pos h2]
      rw [e]
      refine entP Tryz.func9 Tryz.ntmps9 ?_
      (have W := And.intro h1 (h2); repeat' (first
    | refine awp_seq_k fun K hK => ?_
    | refine wkA ?_
    | refine dA 8 [0] [0, 1, 2, 3, 4, 5, 6, 7, 8, 9, 10] mixed ?_
    | (refine hK _ _ ?_; clear hK K)
    | (refine wcond (fun hc => ?_) (fun hc => ?_) <;> first | contradiction | (exfalso; omega) | skip)
    | refine cp (hp) ?_
    | refine cp (hk) ?_
    | refine wkB ?_
    | exact True.intro
    | (clear hK K))); all_goals (try clear W)
      refine retv [.cell 2 33, .tmp 3, .tmp 4] ?_
      refine VToL.tup (ds := [.agg (eGProg prog0), rI _, rI _]) ?_
      refine And.intro (VToL.agg (ds := eGProg prog0) ?_) (And.intro (.same _ rfl) (And.intro (.same _ rfl) trivial))
      simp only [eGProg, prog0]
      exact vtl
    · by_cases h3 : (checkAll (parseAll s).1).2.2 = 0
      · have e : sourceF s = ((checkAll (parseAll s).1).1, 0, 0) := by unfold sourceF; rw [if_neg (fun h => h h1)]; simp only; rw [if_neg h2, if_neg (fun h => h h3)]
        rw [e]
        refine entP Tryz.func9 Tryz.ntmps9 ?_
        (have W := And.intro h1 (h3); repeat' (first
    | refine awp_seq_k fun K hK => ?_
    | refine wkA ?_
    | refine dA 8 [0] [0, 1, 2, 3, 4, 5, 6, 7, 8, 9, 10] mixed ?_
    | (refine hK _ _ ?_; clear hK K)
    | (refine wcond (fun hc => ?_) (fun hc => ?_) <;> first | contradiction | (exfalso; omega) | skip)
    | refine cp (hp) ?_
    | refine cp (hk) ?_
    | refine wkB ?_
    | exact True.intro
    | (clear hK K))); all_goals (try clear W)
        (refine retd [.cell 2 33, .tmp 3, .tmp 4] ?_; try simp only [go_sem])
      · have e : sourceF s = (prog0, (nth (parseAll s).1.nodes (checkAll (parseAll s).1).2.1.toNat).line, (checkAll (parseAll s).1).2.2) := by unfold sourceF; rw [if_neg (fun h => h h1)]; simp only; rw [if_neg h2, if_pos h3]
        obtain ⟨hn1, hn2⟩ := (hat.resolve_left h3).resolve_left h2
        rw [e]
        refine entP Tryz.func9 Tryz.ntmps9 ?_
        (have W := And.intro h1 (And.intro h2 (h3)); repeat' (first
    | refine awp_seq_k fun K hK => ?_
    | refine wkA ?_
    | refine dA 8 [0] [0, 1, 2, 3, 4, 5, 6, 7, 8, 9, 10] mixed ?_
    | (refine hK _ _ ?_; clear hK K)
    | (refine wcond (fun hc => ?_) (fun hc => ?_) <;> first | contradiction | (exfalso; omega) | skip)
    | refine cp (hp) ?_
    | refine cp (hk) ?_
    | refine wkB ?_
    | exact True.intro
    | (clear hK K))); all_goals (try clear W)
        refine retv [.cell 2 33, .tmp 3, .tmp 4] ?_
        refine VToL.tup (ds := [.agg (eGProg prog0), rI _, rI _]) ?_
        refine And.intro (VToL.agg (ds := eGProg prog0) ?_) (And.intro (.same _ rfl) (And.intro (.same _ rfl) trivial))
        simp only [eGProg, prog0]
        exact vtl
  · have e : sourceF s = (prog0, (parseAll s).2.1, (parseAll s).2.2) := by unfold sourceF; rw [if_pos h1]
    rw [e]
    refine entP Tryz.func9 Tryz.ntmps9 ?_
    (have W := h1; repeat' (first
    | refine awp_seq_k fun K hK => ?_
    | refine wkA ?_
    | refine dA 8 [0] [0, 1, 2, 3, 4, 5, 6, 7, 8, 9, 10] mixed ?_
    | (refine hK _ _ ?_; clear hK K)
    | (refine wcond (fun hc => ?_) (fun hc => ?_) <;> first | contradiction | (exfalso; omega) | skip)
    | refine cp (hp) ?_
    | refine wkB ?_
    | exact True.intro
    | (clear hK K))); all_goals (try clear W)
    refine retv [.cell 2 33, .tmp 3, .tmp 4] ?_
    refine VToL.tup (ds := [.agg (eGProg prog0), rI _, rI _]) ?_
    refine And.intro (VToL.agg (ds := eGProg prog0) ?_) (And.intro (.same _ rfl) (And.intro (.same _ rfl) trivial))
    simp only [eGProg, prog0]
    exact vtl
end Go.Proofs.YtbpmikjlfgfbmaaGreatDoor

namespace Go.Proofs.YtbpmikjlfgfbmaaGreatDoor
open Go Go.Gd
theorem nth_set {α : Type} [Inhabited α] (l : List α) (i k : Nat) (v : α) : nth (l.set i v) k = if i = k ∧ k < l.length then v else nth l k := by
  unfold nth
  rw [List.getD_eq_getElem?_getD, List.getElem?_set, List.getD_eq_getElem?_getD]
  by_cases h : i = k
  · subst h
    by_cases hi : i < l.length
    · simp [hi]
    · simp [hi]
  · simp [h]
/-- What the type of an expression's node is, by those below it. -/
structure TyE (t : GTree) (ty : List Int) (k : Nat) : Prop where
  int : (nth t.nodes k).kind = 1 → nth ty k = 1
  bool : (nth t.nodes k).kind = 2 → nth ty k = 2
  text : (nth t.nodes k).kind = 3 → nth ty k = 3
  var : (nth t.nodes k).kind = 4 → 1 ≤ nth ty k ∧ nth ty k ≤ 4
  index : (nth t.nodes k).kind = 5 → nth ty k = 1 ∧ nth ty (nth (nth t.nodes k).l 0).toNat = 1
  len : (nth t.nodes k).kind = 6 → nth ty k = 1 ∧ (nth ty (nth (nth t.nodes k).l 0).toNat = 3 ∨ nth ty (nth (nth t.nodes k).l 0).toNat = 4)
  neg : (nth t.nodes k).kind = 7 → nth ty k = 1 ∧ nth ty (nth (nth t.nodes k).l 0).toNat = 1
  not : (nth t.nodes k).kind = 8 → nth ty k = 2 ∧ nth ty (nth (nth t.nodes k).l 0).toNat = 2
  bin : (nth t.nodes k).kind = 9 → nth ty k = binT (nth t.nodes k).name (nth ty (nth (nth t.nodes k).l 0).toNat) (nth ty (nth (nth t.nodes k).l 1).toNat) ∧ nth ty k ≠ 0
  cond : (nth t.nodes k).kind = 15 ∨ (nth t.nodes k).kind = 16 → nth ty (nth (nth t.nodes k).l 0).toNat = 2
  call : (nth t.nodes k).kind = 21 → 0 ≤ lastI GFunc.name (nth t.nodes k).name t.fns 0 (-1) ∧ (nth t.nodes k).l.length = (nth t.fns (lastI GFunc.name (nth t.nodes k).name t.fns 0 (-1)).toNat).params.length
/-- So it is of all nodes from lo on, ahead of hi. -/
def TyAll (t : GTree) (ty : List Int) (lo hi : Nat) : Prop := ∀ k, lo ≤ k → k < hi → TyE t ty k
/-- Types are noted there only. -/
def Tw (lo hi : Nat) (c c' : Ck) : Prop := ∀ k, (k < lo ∨ hi ≤ k) → nth c'.types k = nth c.types k
theorem _root_.Go.Gd.Chain.closed {t : List GNode} {lo hi : Nat} {L : List Int} (h : Chain t lo L hi) : ∀ k, lo ≤ k → k < hi → ∀ a ∈ (nth t k).l, lo ≤ a.toNat := by
  induction h with
  | nil => intro k h1 h2; omega
  | @cons lo c hi L hc h1 h2 i1 i2 =>
    intro k hk1 hk2 a ha
    have l1 := h1.le
    by_cases h : k < c
    · exact i1 k hk1 h a ha
    by_cases h' : k = c
    · subst h'
      exact (h1.mem a ha).2.1
    · have := i2 k (by omega) hk2 a ha
      omega
theorem TyE.keep {t : GTree} (h : TreeOk t) {ty ty' : List Int} {k lo : Nat} (hk : k < t.nodes.length) (hlo : lo ≤ k) (hc : ∀ a ∈ (nth t.nodes k).l, lo ≤ a.toNat) (he : ∀ i, lo ≤ i → i ≤ k → nth ty' i = nth ty i) (x : TyE t ty k) : TyE t ty' k := by
  have hm := (h.shape k hk).2.1
  have sh := (h.shape k hk).1
  have e0 := he k hlo (Nat.le_refl _)
  have ea : ∀ i, i < (nth t.nodes k).l.length → nth ty' (nth (nth t.nodes k).l i).toNat = nth ty (nth (nth t.nodes k).l i).toNat := fun i hi => by
    have hmem := nth_mem hi
    have := hm _ hmem
    exact he _ (hc _ hmem) (by omega)
  refine ⟨fun e => by rw [e0]; exact x.int e, fun e => by rw [e0]; exact x.bool e, fun e => by rw [e0]; exact x.text e, fun e => by rw [e0]; exact x.var e, fun e => ?_, fun e => ?_, fun e => ?_, fun e => ?_, fun e => ?_, fun e => ?_, x.call⟩
  · obtain ⟨a, hl, _⟩ := sh.one (by omega)
    rw [e0, ea 0 (by rw [hl]; simp)]; exact x.index e
  · obtain ⟨a, hl, _⟩ := sh.one (by omega)
    rw [e0, ea 0 (by rw [hl]; simp)]; exact x.len e
  · obtain ⟨a, hl, _⟩ := sh.one (by omega)
    rw [e0, ea 0 (by rw [hl]; simp)]; exact x.neg e
  · obtain ⟨a, hl, _⟩ := sh.one (by omega)
    rw [e0, ea 0 (by rw [hl]; simp)]; exact x.not e
  · obtain ⟨a, b, hl, _⟩ := sh.two (by omega)
    rw [e0, ea 0 (by rw [hl]; simp), ea 1 (by rw [hl]; simp)]; exact x.bin e
  · have hl : 0 < (nth t.nodes k).l.length := by
      rcases e with e | e
      · obtain ⟨a, b, _, _, hl | ⟨d, hl, _⟩⟩ := sh.if_ e <;> rw [hl] <;> simp
      · obtain ⟨a, b, hl, _⟩ := sh.while_ e; rw [hl]; simp
    rw [ea 0 hl]; exact x.cond e
theorem TyAll.keep {t : GTree} (h : TreeOk t) {ty ty' : List Int} {lo hi : Nat} {L : List Int} (hc : Chain t.nodes lo L hi) (hl : hi ≤ t.nodes.length) (he : ∀ i, lo ≤ i → i < hi → nth ty' i = nth ty i) (x : TyAll t ty lo hi) : TyAll t ty' lo hi := fun k h1 h2 =>
  (x k h1 h2).keep h (by omega) h1 (hc.closed k h1 h2) fun i g1 g2 => he i g1 (by omega)
theorem TyAll.join {t : GTree} {ty : List Int} {lo mid hi : Nat} (x : TyAll t ty lo mid) (y : TyAll t ty mid hi) : TyAll t ty lo hi := fun k h1 h2 => by
  by_cases h : k < mid
  · exact x k h1 h
  · exact y k (by omega) h2
theorem TyAll.none {t : GTree} {ty : List Int} {lo : Nat} : TyAll t ty lo lo := fun k h1 h2 => by omega
theorem Tw.refl (lo hi : Nat) (c : Ck) : Tw lo hi c c := fun _ _ => rfl
theorem Tw.same {lo hi : Nat} {c c' : Ck} (h : c'.types = c.types) : Tw lo hi c c' := fun _ _ => by rw [h]
theorem Tw.trans {lo hi : Nat} {a b c : Ck} (h : Tw lo hi a b) (k : Tw lo hi b c) : Tw lo hi a c := fun i hi => (k i hi).trans (h i hi)
theorem Tw.mono {lo hi lo' hi' : Nat} {a b : Ck} (h : Tw lo hi a b) (h1 : lo' ≤ lo) (h2 : hi ≤ hi') : Tw lo' hi' a b := fun i hi => h i (by omega)
theorem fails_types (c : Ck) (e a : Int) : (c.fails e a).types = c.types := by unfold Ck.fails; split <;> rfl
theorem must_types (c : Ck) (b : Bool) (a : Int) : (c.must b a).types = c.types := by unfold Ck.must; split; rfl; exact fails_types _ _ _
theorem must_ok {c : Ck} {b : Bool} {a : Int} (h : (c.must b a).e = 0) : b = true ∧ c.e = 0 := by
  unfold Ck.must at h
  split at h
  · exact ⟨by assumption, h⟩
  · exfalso
    unfold Ck.fails at h
    split at h
    · cases h
    · contradiction
theorem fails_ok {c : Ck} {e a : Int} (he : e ≠ 0) (h : (c.fails e a).e = 0) : False := by
  unfold Ck.fails at h
  split at h
  · exact he h
  · contradiction
theorem named_types (c : Ck) (a : Int) : (c.named a).1.types = c.types := by unfold Ck.named; split; exact fails_types _ _ _; rfl
/-- What is visible has a type. -/
def VarsT (c : Ck) : Prop := ∀ v ∈ c.vars, 1 ≤ v.ty ∧ v.ty ≤ 4
theorem VarsT.ev {c c' : Ck} (h : VarsT c) (s : Ev c c') : VarsT c' := by unfold VarsT; rw [s.vars]; exact h
theorem named_ty {c : Ck} (h : VarsT c) {a : Int} (he : (c.named a).1.e = 0) : 1 ≤ (c.named a).2 ∧ (c.named a).2 ≤ 4 := by
  unfold Ck.named at he ⊢
  split
  · rename_i hf
    rw [if_pos hf] at he
    exact (fails_ok (by decide) he).elim
  · rename_i hf
    rcases find_bd GVar.name (c.node a).name c.vars 0 (by omega) with ⟨h1, _⟩ | h1
    · exact (hf (by show findI GVar.name (c.node a).name c.vars 0 < 0; rw [h1]; decide)).elim
    · exact h _ (nth_mem (by show (findI GVar.name (c.node a).name c.vars 0).toNat < _; omega))
theorem Ev.e0 {c c' : Ck} (s : Ev c c') (h : c'.e = 0) : c.e = 0 := Classical.byContradiction fun e => s.err e h
/-- What looking at an expression notes. -/
structure TyR (t : GTree) (lo hi : Nat) (c c' : Ck) : Prop where
  tw : Tw lo hi c c'
  all : TyAll t c'.types lo hi
theorem TyR.post {t : GTree} {lo hi : Nat} {a b c : Ck} (h : TyR t lo hi a b) (e : c.types = b.types) : TyR t lo hi a c := ⟨h.tw.trans (.same e), by rw [e]; exact h.all⟩
theorem TyR.pre {t : GTree} {lo hi : Nat} {a b c : Ck} (e : b.types = a.types) (h : TyR t lo hi b c) : TyR t lo hi a c := ⟨(Tw.same e).trans h.tw, h.all⟩
theorem TyR.seq {t : GTree} (ht : TreeOk t) {lo mid hi : Nat} {L : List Int} {a b c : Ck} (hc : Chain t.nodes lo L mid) (hl : mid ≤ t.nodes.length) (h1 : mid ≤ hi) (h : TyR t lo mid a b) (k : TyR t mid hi b c) : TyR t lo hi a c :=
  ⟨(h.tw.mono (Nat.le_refl _) h1).trans (k.tw.mono hc.le (Nat.le_refl _)), (h.all.keep ht hc hl fun i _ h2 => k.tw i (.inl h2)).join k.all⟩
def ExT (t : GTree) (n : Nat) : Prop := ∀ (c : Ck) (a : Int) (lo : Nat), CkIn c → c.tree = t → VarsT c → 0 ≤ a → a < t.nodes.length → a.toNat < n → isR (kindAt t.nodes a) → Chain t.nodes lo (nth t.nodes a.toNat).l a.toNat → (exprK n c a).1.e = 0 →
  TyR t lo (a.toNat + 1) c (exprK n c a).1 ∧ nth (exprK n c a).1.types a.toNat = (exprK n c a).2 ∧ 0 ≤ (exprK n c a).2 ∧ (exprK n c a).2 ≤ 4
theorem chain1 {t : List GNode} {lo hi : Nat} {a : Int} (h : Chain t lo [a] hi) : 0 ≤ a ∧ a < t.length ∧ lo ≤ a.toNat ∧ hi = a.toNat + 1 ∧ Chain t lo (nth t a.toNat).l a.toNat := by
  cases h with
  | cons hc h1 h2 =>
    cases h2
    exact ⟨by omega, by omega, by have := h1.le; simpa using this, by simp, by simpa using h1⟩
theorem chainC {t : List GNode} {lo hi : Nat} {a : Int} {L : List Int} (h : Chain t lo (a :: L) hi) : 0 ≤ a ∧ a < t.length ∧ lo ≤ a.toNat ∧ a.toNat + 1 ≤ hi ∧ Chain t lo (nth t a.toNat).l a.toNat ∧ Chain t (a.toNat + 1) L hi := by
  cases h with
  | cons hc h1 h2 => exact ⟨by omega, by omega, by have := h1.le; simpa using this, by have := h2.le; simpa using this, by simpa using h1, by simpa using h2⟩
theorem Chain.one' {t : List GNode} {lo : Nat} {a : Int} (h0 : 0 ≤ a) (h1 : a < t.length) (h : Chain t lo (nth t a.toNat).l a.toNat) : Chain t lo [a] (a.toNat + 1) := by
  have e : a = ((a.toNat : Nat) : Int) := by omega
  rw [e]
  exact Chain.one (by omega) (by simpa using h)
theorem ty_args {t : GTree} (ht : TreeOk t) {n : Nat} (hx : ExT t n) : ∀ (L : List Int) (c : Ck) (ts : List Int) (lo hi : Nat), CkIn c → c.tree = t → VarsT c → hi ≤ n → hi ≤ t.nodes.length → (∀ x ∈ L, isR (kindAt t.nodes x)) → Chain t.nodes lo L hi → (argsK (exprK n) c L ts).1.e = 0 → TyR t lo hi c (argsK (exprK n) c L ts).1
  | [], c, ts, lo, hi, h, hc, hv, hn, hl, hr, hch, he => by
    cases hch
    unfold argsK
    exact ⟨.refl _ _ _, .none⟩
  | a :: L, c, ts, lo, hi, h, hc, hv, hn, hl, hr, hch, he => by
    have e0 := (ev_args (ev_expr n) (a :: L) c ts).e0 he
    unfold argsK at he ⊢
    rw [if_pos e0] at he ⊢
    obtain ⟨c1, c2, c3, c4, c5, c6⟩ := chainC hch
    have ev := ev_expr n c a
    have e1 := (ev_args (ev_expr n) L _ _).e0 he
    have r1 := (hx c a lo h hc hv c1 c2 (by omega) (hr a (by simp)) c5 e1).1
    exact r1.seq ht (Chain.one' c1 c2 c5) (by omega) (by omega) (ty_args ht hx L _ _ _ hi (h.ev ev) (ev.tree.trans hc) (hv.ev ev) hn hl (fun x hx => hr x (by simp [hx])) c6 he)

theorem types_types (a : Int) : ∀ (ts : List Int) (ps : List GParam) (c : Ck), (typesK a c ts ps).types = c.types
  | [], ps, c => by rw [types_nil1]
  | _ :: _, [], c => by rw [types_nil2]
  | x :: ts, p :: ps, c => by
    unfold typesK
    split
    · rw [types_types a ts ps _]; exact must_types _ _ _
    · rfl
theorem ty_call {t : GTree} (ht : TreeOk t) {n : Nat} (hx : ExT t n) {c : Ck} {a : Int} {lo : Nat} (h : CkIn c) (hc : c.tree = t) (hv : VarsT c) (h0 : 0 ≤ a) (h1 : a < t.nodes.length) (hn : a.toNat ≤ n) (hk : (nth t.nodes a.toNat).kind = 21) (hch : Chain t.nodes lo (nth t.nodes a.toNat).l a.toNat) (he : (callK (exprK n) c a).1.e = 0) :
    TyR t lo a.toNat c (callK (exprK n) c a).1 ∧ (0 ≤ (callK (exprK n) c a).2 ∧ (callK (exprK n) c a).2 ≤ 4) ∧ 0 ≤ lastI GFunc.name (nth t.nodes a.toNat).name t.fns 0 (-1) ∧ (nth t.nodes a.toNat).l.length = (nth t.fns (lastI GFunc.name (nth t.nodes a.toNat).name t.fns 0 (-1)).toNat).params.length := by
  have hnode : c.node a = nth t.nodes a.toNat := by unfold Ck.node; rw [hc]
  have hcall := (ht.shape a.toNat (by omega)).1.call hk
  unfold callK at he ⊢
  split at he
  · exact (fails_ok (by decide) he).elim
  rename_i hf
  rw [if_neg hf]
  simp only at he ⊢
  have e1 := (ev_types a _ _ _).e0 he
  split at e1
  · exact (fails_ok (by decide) e1).elim
  rename_i hl
  rw [if_neg hl]
  have r := ty_args ht hx (c.node a).l c [] lo a.toNat h hc hv hn (by omega) (fun x hx' => .inl (hcall x (by rw [← hnode]; exact hx'))) (by rw [hnode]; exact hch) e1
  have hcal : calleeK c a = lastI GFunc.name (nth t.nodes a.toNat).name t.fns 0 (-1) := by unfold calleeK; rw [hnode, hc]
  refine ⟨r.post (types_types _ _ _ _), ?_, by rw [← hcal]; omega, by rw [← hcal, ← hnode, ← hc]; omega⟩
  have hfn : (nth c.tree.fns (calleeK c a).toNat) ∈ c.tree.fns ∨ (nth c.tree.fns (calleeK c a).toNat) = default := by
    by_cases hi : (calleeK c a).toNat < c.tree.fns.length
    · exact .inl (nth_mem hi)
    · exact .inr (nth_out (Nat.le_of_not_lt hi))
  rcases hfn with hfn | hfn
  · exact (ht.fn _ (by rw [← hc]; exact hfn)).1.ret
  · rw [hfn]; decide
theorem binT_bd (s : ByteArray) (a b : Int) : 0 ≤ binT s a b ∧ binT s a b ≤ 4 := by
  unfold binT
  repeat' split
  all_goals omega
/-- The node itself, beside those below it. -/
theorem ty_note {t : GTree} (ht : TreeOk t) {c c' : Ck} {a T : Int} {lo : Nat} (hl : c'.types.length = t.nodes.length) (h0 : 0 ≤ a) (h1 : a < t.nodes.length) (hch : Chain t.nodes lo (nth t.nodes a.toNat).l a.toNat) (r : TyR t lo a.toNat c c') (hT : TyE t (c'.types.set a.toNat T) a.toNat) :
    TyR t lo (a.toNat + 1) c (c'.note a T) ∧ nth (c'.note a T).types a.toNat = T := by
  have hs : ∀ k, nth (c'.note a T).types k = if a.toNat = k ∧ k < c'.types.length then T else nth c'.types k := fun k => nth_set _ _ _ _
  refine ⟨⟨fun k hk => ?_, ?_⟩, by rw [hs, if_pos ⟨rfl, by omega⟩]⟩
  · have hlo := hch.le
    rw [hs, if_neg (by omega)]
    exact r.tw k (by omega)
  · refine (r.all.keep ht hch (by omega) fun i _ h2 => by rw [hs, if_neg (by omega)]).join fun k g1 g2 => ?_
    have : k = a.toNat := by omega
    subst this
    exact hT
theorem ty_expr {t : GTree} (ht : TreeOk t) : ∀ n, ExT t n
  | 0 => fun c a lo h hc hv h0 h1 hn => by omega
  | n + 1 => fun c a lo h hc hv h0 h1 hn hr hch he => by
    have hx := ty_expr ht n
    have e0 := (ev_expr (n + 1) c a).e0 he
    unfold exprK at he ⊢
    rw [if_neg (by omega)] at he ⊢
    simp only at he ⊢
    have he : (tellsK (exprK n) c a).1.e = 0 := he
    have hnode : c.node a = nth t.nodes a.toNat := by unfold Ck.node; rw [hc]
    have sh := (ht.shape a.toNat (by omega)).1
    have hlen : (tellsK (exprK n) c a).1.types.length = t.nodes.length := by rw [(ev_tells (ev_expr n) c a).types, h.types, hc]
    -- what is to be shown of the node itself
    suffices hs : TyR t lo a.toNat c (tellsK (exprK n) c a).1 ∧ TyE t ((tellsK (exprK n) c a).1.types.set a.toNat (tellsK (exprK n) c a).2) a.toNat ∧ 0 ≤ (tellsK (exprK n) c a).2 ∧ (tellsK (exprK n) c a).2 ≤ 4 by
      obtain ⟨s1, s2, s3⟩ := hs
      obtain ⟨g1, g2⟩ := ty_note ht hlen h0 h1 hch s1 s2
      exact ⟨g1, g2, s3⟩
    have hset : ∀ T, nth ((tellsK (exprK n) c a).1.types.set a.toNat T) a.toNat = T := fun T => by rw [nth_set, if_pos ⟨rfl, by omega⟩]
    have hoth : ∀ T k, k ≠ a.toNat → nth ((tellsK (exprK n) c a).1.types.set a.toNat T) k = nth (tellsK (exprK n) c a).1.types k := fun T k hk => by rw [nth_set, if_neg (by omega)]
    have leaf : (nth t.nodes a.toNat).l = [] → ∀ c', c'.types = c.types → TyR t lo a.toNat c c' := fun hl c' e => by
      rw [hl] at hch
      have : lo = a.toNat := by cases hch; rfl
      subst this
      exact ⟨.same e, .none⟩
    have kid1 : ∀ c0 x, CkIn c0 → c0.tree = t → VarsT c0 → c0.types = c.types → (nth t.nodes a.toNat).l = [x] → isR (kindAt t.nodes x) → (exprK n c0 x).1.e = 0 → TyR t lo a.toNat c (exprK n c0 x).1 ∧ nth (exprK n c0 x).1.types x.toNat = (exprK n c0 x).2 ∧ x.toNat ≠ a.toNat := fun c0 x g1 g2 g3 g4 hl hxr hxe => by
      rw [hl] at hch
      obtain ⟨c1, c2, c3, c4, c5⟩ := chain1 hch
      obtain ⟨r1, r2, _⟩ := hx c0 x lo g1 g2 g3 c1 c2 (by omega) hxr c5 hxe
      rw [c4]
      exact ⟨r1.pre g4, r2, by omega⟩
    have kd : ∀ i, c.kid a i = nth (nth t.nodes a.toNat).l i := fun i => by unfold Ck.kid; rw [hnode]
    have hkr : (nth t.nodes a.toNat).kind = 1 ∨ (nth t.nodes a.toNat).kind = 2 ∨ (nth t.nodes a.toNat).kind = 3 ∨ (nth t.nodes a.toNat).kind = 4 ∨ (nth t.nodes a.toNat).kind = 5 ∨ (nth t.nodes a.toNat).kind = 6 ∨ (nth t.nodes a.toNat).kind = 7 ∨ (nth t.nodes a.toNat).kind = 8 ∨ (nth t.nodes a.toNat).kind = 9 ∨ (nth t.nodes a.toNat).kind = 19 ∨ (nth t.nodes a.toNat).kind = 20 ∨ (nth t.nodes a.toNat).kind = 21 := by
      have : isR (nth t.nodes a.toNat).kind := hr
      unfold isR isE at this
      omega
    rcases hkr with k | k | k | k | k | k | k | k | k | k | k | k
    · have e : tellsK (exprK n) c a = (c, 1) := by unfold tellsK; simp only; rw [hnode, k]; rfl
      rw [e] at hset ⊢
      refine ⟨leaf (sh.zero (by omega)) _ rfl, ?_, by simp, by simp⟩
      constructor <;> intro k' <;> first | (exfalso; omega) | exact hset _
    · have e : tellsK (exprK n) c a = (c, 2) := by unfold tellsK; simp only; rw [hnode, k]; rfl
      rw [e] at hset ⊢
      refine ⟨leaf (sh.zero (by omega)) _ rfl, ?_, by simp, by simp⟩
      constructor <;> intro k' <;> first | (exfalso; omega) | exact hset _
    · have e : tellsK (exprK n) c a = (c, 3) := by unfold tellsK; simp only; rw [hnode, k]; rfl
      rw [e] at hset ⊢
      refine ⟨leaf (sh.zero (by omega)) _ rfl, ?_, by simp, by simp⟩
      constructor <;> intro k' <;> first | (exfalso; omega) | exact hset _
    · have e : tellsK (exprK n) c a = c.named a := by unfold tellsK; simp only; rw [hnode, k]; rfl
      rw [e] at hset he ⊢
      have hty := named_ty hv he
      refine ⟨leaf (sh.zero (by omega)) _ (named_types c a), ?_, by omega, by omega⟩
      constructor <;> intro k' <;> first | (exfalso; omega) | (rw [hset]; exact hty)
    · have e : tellsK (exprK n) c a = ((exprK n (c.named a).1 (c.kid a 0)).1.must (decide ((c.named a).2 = 4) && decide ((exprK n (c.named a).1 (c.kid a 0)).2 = 1)) a, 1) := by unfold tellsK; simp only; rw [hnode, k]; rfl
      obtain ⟨x, hl, hxe⟩ := sh.one (by omega)
      have hk0 : c.kid a 0 = x := by rw [kd, hl]; rfl
      rw [e] at hset hoth he ⊢
      rw [hk0] at hset hoth he ⊢
      obtain ⟨b1, b2⟩ := must_ok he
      simp only [Bool.and_eq_true, decide_eq_true_eq] at b1
      have ev := ev_named c a
      obtain ⟨r1, r2, r3⟩ := kid1 (c.named a).1 x (h.ev ev) (ev.tree.trans hc) (hv.ev ev) (named_types c a) hl (.inl hxe) b2
      refine ⟨r1.post (must_types _ _ _), ?_, by simp, by simp⟩
      constructor <;> intro k' <;> first | (exfalso; omega) | skip
      refine ⟨hset _, ?_⟩
      rw [hl]
      show nth (List.set _ _ _) x.toNat = 1
      rw [hoth _ _ r3]
      show nth (Ck.must _ _ _).types x.toNat = 1
      rw [must_types, r2]; exact b1.2
    · have e : tellsK (exprK n) c a = ((exprK n c (c.kid a 0)).1.must (decide ((exprK n c (c.kid a 0)).2 = 3) || decide ((exprK n c (c.kid a 0)).2 = 4)) a, 1) := by unfold tellsK; simp only; rw [hnode, k]; rfl
      obtain ⟨x, hl, hxe⟩ := sh.one (by omega)
      have hk0 : c.kid a 0 = x := by rw [kd, hl]; rfl
      rw [e] at hset hoth he ⊢
      rw [hk0] at hset hoth he ⊢
      obtain ⟨b1, b2⟩ := must_ok he
      simp only [Bool.or_eq_true, decide_eq_true_eq] at b1
      obtain ⟨r1, r2, r3⟩ := kid1 c x h hc hv rfl hl (.inl hxe) b2
      refine ⟨r1.post (must_types _ _ _), ?_, by simp, by simp⟩
      constructor <;> intro k' <;> first | (exfalso; omega) | skip
      refine ⟨hset _, ?_⟩
      rw [hl]
      show nth (List.set _ _ _) x.toNat = 3 ∨ nth (List.set _ _ _) x.toNat = 4
      rw [hoth _ _ r3]
      show nth (Ck.must _ _ _).types x.toNat = 3 ∨ nth (Ck.must _ _ _).types x.toNat = 4
      rw [must_types, r2]; exact b1
    · have e : tellsK (exprK n) c a = ((exprK n c (c.kid a 0)).1.must (decide ((exprK n c (c.kid a 0)).2 = 1)) a, 1) := by unfold tellsK; simp only; rw [hnode, k]; rfl
      obtain ⟨x, hl, hxe⟩ := sh.one (by omega)
      have hk0 : c.kid a 0 = x := by rw [kd, hl]; rfl
      rw [e] at hset hoth he ⊢
      rw [hk0] at hset hoth he ⊢
      obtain ⟨b1, b2⟩ := must_ok he
      simp only [decide_eq_true_eq] at b1
      obtain ⟨r1, r2, r3⟩ := kid1 c x h hc hv rfl hl (.inl hxe) b2
      refine ⟨r1.post (must_types _ _ _), ?_, by simp, by simp⟩
      constructor <;> intro k' <;> first | (exfalso; omega) | skip
      refine ⟨hset _, ?_⟩
      rw [hl]
      show nth (List.set _ _ _) x.toNat = 1
      rw [hoth _ _ r3]
      show nth (Ck.must _ _ _).types x.toNat = 1
      rw [must_types, r2]; exact b1
    · have e : tellsK (exprK n) c a = ((exprK n c (c.kid a 0)).1.must (decide ((exprK n c (c.kid a 0)).2 = 2)) a, 2) := by unfold tellsK; simp only; rw [hnode, k]; rfl
      obtain ⟨x, hl, hxe⟩ := sh.one (by omega)
      have hk0 : c.kid a 0 = x := by rw [kd, hl]; rfl
      rw [e] at hset hoth he ⊢
      rw [hk0] at hset hoth he ⊢
      obtain ⟨b1, b2⟩ := must_ok he
      simp only [decide_eq_true_eq] at b1
      obtain ⟨r1, r2, r3⟩ := kid1 c x h hc hv rfl hl (.inl hxe) b2
      refine ⟨r1.post (must_types _ _ _), ?_, by simp, by simp⟩
      constructor <;> intro k' <;> first | (exfalso; omega) | skip
      refine ⟨hset _, ?_⟩
      rw [hl]
      show nth (List.set _ _ _) x.toNat = 2
      rw [hoth _ _ r3]
      show nth (Ck.must _ _ _).types x.toNat = 2
      rw [must_types, r2]; exact b1
    · have e : tellsK (exprK n) c a = ((exprK n (exprK n c (c.kid a 0)).1 (c.kid a 1)).1.must (!decide (binT (c.node a).name (exprK n c (c.kid a 0)).2 (exprK n (exprK n c (c.kid a 0)).1 (c.kid a 1)).2 = 0)) a, binT (c.node a).name (exprK n c (c.kid a 0)).2 (exprK n (exprK n c (c.kid a 0)).1 (c.kid a 1)).2) := by unfold tellsK; simp only; rw [hnode, k]; rfl
      obtain ⟨x, y, hl, hxe, hye⟩ := sh.two (by omega)
      have hk0 : c.kid a 0 = x := by rw [kd, hl]; rfl
      have hk1 : c.kid a 1 = y := by rw [kd, hl]; rfl
      rw [e] at hset hoth he ⊢
      rw [hk0, hk1] at hset hoth he ⊢
      obtain ⟨b1, b2⟩ := must_ok he
      simp only [Bool.not_eq_true', decide_eq_false_iff_not] at b1
      have ev := ev_expr n c x
      have b0 : (exprK n c x).1.e = 0 := (ev_expr n _ y).e0 b2
      rw [hl] at hch
      obtain ⟨c1, c2, c3, c4, c5, c6⟩ := chainC hch
      obtain ⟨d1, d2, d3, d4, d5⟩ := chain1 c6
      obtain ⟨r1, r2, _⟩ := hx c x lo h hc hv c1 c2 (by omega) (.inl hxe) c5 b0
      obtain ⟨q1, q2, _⟩ := hx (exprK n c x).1 y (x.toNat + 1) (h.ev ev) (ev.tree.trans hc) (hv.ev ev) d1 d2 (by omega) (.inl hye) d5 b2
      have rr := r1.seq ht (Chain.one' c1 c2 c5) (by omega) (by omega) q1
      rw [d4]
      refine ⟨rr.post (must_types _ _ _), ?_, binT_bd _ _ _⟩
      rw [d4] at hset hoth
      rw [← d4]
      rw [← d4] at hset hoth
      have ex : nth ((exprK n (exprK n c x).1 y).1.types) x.toNat = (exprK n c x).2 := by rw [q1.tw _ (by omega), r2]
      constructor <;> intro k' <;> first | (exfalso; omega) | skip
      have g0 := hset (binT (c.node a).name (exprK n c x).2 (exprK n (exprK n c x).1 y).2)
      have g1 := hoth (binT (c.node a).name (exprK n c x).2 (exprK n (exprK n c x).1 y).2) x.toNat (by omega)
      have g2 := hoth (binT (c.node a).name (exprK n c x).2 (exprK n (exprK n c x).1 y).2) y.toNat (by omega)
      simp only [must_types] at g0 g1 g2 ⊢
      rw [hl]
      show _ = binT _ (nth _ x.toNat) (nth _ y.toNat) ∧ _
      rw [g0, g1, g2, ex, q2, ← hnode]
      exact ⟨rfl, b1⟩
    · have e : tellsK (exprK n) c a = (c, 1) := by unfold tellsK; simp only; rw [hnode, k]; rfl
      rw [e] at hset ⊢
      refine ⟨leaf (sh.zero (by omega)) _ rfl, ?_, by simp, by simp⟩
      constructor <;> intro k' <;> (exfalso; omega)
    · have e : tellsK (exprK n) c a = ((exprK n c (c.kid a 0)).1.must (decide ((exprK n c (c.kid a 0)).2 = 1)) a, 4) := by unfold tellsK; simp only; rw [hnode, k]; rfl
      obtain ⟨x, hl, hxe⟩ := sh.one (by omega)
      have hk0 : c.kid a 0 = x := by rw [kd, hl]; rfl
      rw [e] at he ⊢
      rw [hk0] at he ⊢
      obtain ⟨b1, b2⟩ := must_ok he
      obtain ⟨r1, r2, r3⟩ := kid1 c x h hc hv rfl hl (.inl hxe) b2
      refine ⟨r1.post (must_types _ _ _), ?_, by simp, by simp⟩
      constructor <;> intro k' <;> (exfalso; omega)
    · have e : tellsK (exprK n) c a = callK (exprK n) c a := by unfold tellsK; simp only; rw [hnode, k]; rfl
      rw [e] at he ⊢
      obtain ⟨r1, r2, r3⟩ := ty_call ht hx h hc hv h0 h1 (by omega) k hch he
      refine ⟨r1, ?_, r2⟩
      constructor <;> intro k' <;> first | (exfalso; omega) | exact r3
end Go.Proofs.YtbpmikjlfgfbmaaGreatDoor

namespace Go.Proofs.YtbpmikjlfgfbmaaGreatDoor
open Go Go.Gd
theorem TyR.skip {t : GTree} {lo : Nat} {c c' : Ck} {a : Int} (hk : isS (kindAt t.nodes a) ∨ kindAt t.nodes a = 18) (hcd : (nth t.nodes a.toNat).kind = 15 ∨ (nth t.nodes a.toNat).kind = 16 → nth c'.types (nth (nth t.nodes a.toNat).l 0).toNat = 2) (r : TyR t lo a.toNat c c') : TyR t lo (a.toNat + 1) c c' := by
  refine ⟨r.tw.mono (Nat.le_refl _) (by omega), fun k h1 h2 => ?_⟩
  by_cases h : k < a.toNat
  · exact r.all k h1 h
  · have : k = a.toNat := by omega
    subst this
    have hk : isS (nth t.nodes a.toNat).kind ∨ (nth t.nodes a.toNat).kind = 18 := hk
    unfold isS at hk
    constructor <;> intro k' <;> first | (exfalso; omega) | exact hcd k'
def StT (t : GTree) (n : Nat) : Prop := ∀ (c : Ck) (a : Int) (lo : Nat), CkIn c → c.tree = t → VarsT c → c.e = 0 → 0 ≤ a → a < t.nodes.length → a.toNat < n → isS (kindAt t.nodes a) → Chain t.nodes lo (nth t.nodes a.toNat).l a.toNat → (statementK n c a).e = 0 →
  TyR t lo (a.toNat + 1) c (statementK n c a) ∧ VarsT (statementK n c a)
theorem Sv.e0 {c c' : Ck} (s : Sv c c') (h : c'.e = 0) : c.e = 0 := Classical.byContradiction fun e => s.err e h
theorem ty_stmts {t : GTree} (ht : TreeOk t) {st : Ck → Int → Ck} {C : Int → Prop} {n : Nat} (hs : ∀ c a, CkIn c → c.e = 0 → Sv c (st c a))
    (hst : ∀ (c : Ck) (a : Int) (lo : Nat), CkIn c → c.tree = t → VarsT c → c.e = 0 → 0 ≤ a → a < t.nodes.length → a.toNat < n → C (kindAt t.nodes a) → Chain t.nodes lo (nth t.nodes a.toNat).l a.toNat → (st c a).e = 0 → TyR t lo (a.toNat + 1) c (st c a) ∧ VarsT (st c a)) :
    ∀ (L : List Int) (c : Ck) (lo hi : Nat), CkIn c → c.tree = t → VarsT c → hi ≤ n → hi ≤ t.nodes.length → (∀ x ∈ L, C (kindAt t.nodes x)) → Chain t.nodes lo L hi → (stmtsK st c L).e = 0 → TyR t lo hi c (stmtsK st c L) ∧ VarsT (stmtsK st c L)
  | [], c, lo, hi, h, hc, hv, hn, hl, hr, hch, he => by
    cases hch
    unfold stmtsK
    exact ⟨⟨.refl _ _ _, .none⟩, hv⟩
  | a :: L, c, lo, hi, h, hc, hv, hn, hl, hr, hch, he => by
    have e0 := (sv_stmts hs (a :: L) c h).e0 he
    unfold stmtsK at he ⊢
    rw [if_pos e0] at he ⊢
    obtain ⟨c1, c2, c3, c4, c5, c6⟩ := chainC hch
    have s := hs c a h e0
    have e1 := (sv_stmts hs L _ s.inv).e0 he
    obtain ⟨r1, v1⟩ := hst c a lo h hc hv e0 c1 c2 (by omega) (hr a (by simp)) c5 e1
    obtain ⟨r2, v2⟩ := ty_stmts ht hs hst L _ _ hi s.inv (s.tree.trans hc) v1 hn hl (fun x hx => hr x (by simp [hx])) c6 he
    exact ⟨r1.seq ht (Chain.one' c1 c2 c5) (by omega) (by omega) r2, v2⟩
theorem ty_block {t : GTree} (ht : TreeOk t) {n : Nat} (hst : StT t n) (c : Ck) (a : Int) (lo : Nat) (h : CkIn c) (hc : c.tree = t) (hv : VarsT c) (h0 : 0 ≤ a) (h1 : a < t.nodes.length) (hn : a.toNat ≤ n) (hk : kindAt t.nodes a = 18) (hch : Chain t.nodes lo (nth t.nodes a.toNat).l a.toNat) (he : (blockK (statementK n) c a).e = 0) :
    TyR t lo (a.toNat + 1) c (blockK (statementK n) c a) ∧ VarsT (blockK (statementK n) c a) := by
  have sv := sv_block (sv_statement n) h a
  have hnode : c.node a = nth t.nodes a.toNat := by unfold Ck.node; rw [hc]
  have hb := (ht.shape a.toNat (by omega)).1.block hk
  have ev := ev_noteF c a
  obtain ⟨r, _⟩ := ty_stmts ht (sv_statement n) (C := isS) hst (c.node a).l (c.noteF a) lo a.toNat (h.ev ev) (ev.tree.trans hc) (hv.ev ev) hn (by omega) (fun x hx => hb x (by rw [← hnode]; exact hx)) (by rw [hnode]; exact hch) he
  have r : TyR t lo a.toNat c (blockK (statementK n) c a) := TyR.post (b := stmtsK (statementK n) (c.noteF a) (c.node a).l) (TyR.pre (a := c) (b := c.noteF a) rfl r) rfl
  have hk18 : (nth t.nodes a.toNat).kind = 18 := hk
  refine ⟨r.skip (.inr hk) (fun h => by omega), ?_⟩
  unfold VarsT
  rw [sv.2]
  exact hv
theorem ty_one {t : GTree} (ht : TreeOk t) {n : Nat} {c c0 : Ck} {a x : Int} {lo : Nat} (h : CkIn c0) (hc : c0.tree = t) (hv : VarsT c0) (hty : c0.types = c.types) (hn : a.toNat ≤ n) (hl : (nth t.nodes a.toNat).l = [x]) (hx : isR (kindAt t.nodes x)) (hch : Chain t.nodes lo (nth t.nodes a.toNat).l a.toNat) (he : (exprK n c0 x).1.e = 0) :
    TyR t lo a.toNat c (exprK n c0 x).1 ∧ 0 ≤ (exprK n c0 x).2 ∧ (exprK n c0 x).2 ≤ 4 := by
  rw [hl] at hch
  obtain ⟨c1, c2, c3, c4, c5⟩ := chain1 hch
  obtain ⟨r1, r2, r3⟩ := ty_expr ht n c0 x lo h hc hv c1 c2 (by omega) hx c5 he
  rw [c4]
  exact ⟨r1.pre hty, r3⟩
theorem ty_two {t : GTree} (ht : TreeOk t) {n : Nat} {c c0 : Ck} {a x y : Int} {lo : Nat} (h : CkIn c0) (hc : c0.tree = t) (hv : VarsT c0) (hty : c0.types = c.types) (hn : a.toNat ≤ n) (hl : (nth t.nodes a.toNat).l = [x, y]) (hx : isE (kindAt t.nodes x)) (hy : isE (kindAt t.nodes y)) (hch : Chain t.nodes lo (nth t.nodes a.toNat).l a.toNat) (hle : a.toNat ≤ t.nodes.length) (he : (exprK n (exprK n c0 x).1 y).1.e = 0) :
    TyR t lo a.toNat c (exprK n (exprK n c0 x).1 y).1 := by
  rw [hl] at hch
  obtain ⟨c1, c2, c3, c4, c5, c6⟩ := chainC hch
  obtain ⟨d1, d2, d3, d4, d5⟩ := chain1 c6
  have ev := ev_expr n c0 x
  obtain ⟨r1, _⟩ := ty_expr ht n c0 x lo h hc hv c1 c2 (by omega) (.inl hx) c5 ((ev_expr n _ y).e0 he)
  obtain ⟨q1, _⟩ := ty_expr ht n (exprK n c0 x).1 y (x.toNat + 1) (h.ev ev) (ev.tree.trans hc) (hv.ev ev) d1 d2 (by omega) (.inl hy) d5 he
  rw [d4]
  exact (r1.seq ht (Chain.one' c1 c2 c5) (by omega) (by omega) q1).pre hty
theorem if_fails {c : Ck} {p : Prop} [Decidable p] {e a : Int} (he : e ≠ 0) (h : (if p then c.fails e a else c).e = 0) : ¬ p ∧ (if p then c.fails e a else c) = c := by
  split at h
  · exact (fails_ok he h).elim
  · rename_i hp
    exact ⟨hp, if_neg hp⟩
theorem ty_stmt {t : GTree} (ht : TreeOk t) : ∀ n, StT t n
  | 0 => fun c a lo h hc hv e0 h0 h1 hn => by omega
  | n + 1 => fun c a lo h hc hv e0 h0 h1 hn hr hch he => by
    have hs := ty_stmt ht n
    have hnode : (c.noteF a).node a = nth t.nodes a.toNat := by unfold Ck.node; show nth c.tree.nodes _ = _; rw [hc]
    have sh := (ht.shape a.toNat (by omega)).1
    have kd : ∀ i, (c.noteF a).kid a i = nth (nth t.nodes a.toNat).l i := fun i => by unfold Ck.kid; rw [hnode]
    have ev := ev_noteF c a
    have h' := h.ev ev
    have hc' := ev.tree.trans hc
    have hv' := hv.ev ev
    suffices hsf : TyR t lo a.toNat c (statementK (n + 1) c a) ∧ VarsT (statementK (n + 1) c a) ∧ ((nth t.nodes a.toNat).kind = 15 ∨ (nth t.nodes a.toNat).kind = 16 → nth (statementK (n + 1) c a).types (nth (nth t.nodes a.toNat).l 0).toNat = 2) from ⟨hsf.1.skip (.inl hr) hsf.2.2, hsf.2.1⟩
    have hkr : (nth t.nodes a.toNat).kind = 10 ∨ (nth t.nodes a.toNat).kind = 11 ∨ (nth t.nodes a.toNat).kind = 12 ∨ (nth t.nodes a.toNat).kind = 13 ∨ (nth t.nodes a.toNat).kind = 14 ∨ (nth t.nodes a.toNat).kind = 17 ∨ (nth t.nodes a.toNat).kind = 15 ∨ (nth t.nodes a.toNat).kind = 16 := by
      have : isS (nth t.nodes a.toNat).kind := hr
      unfold isS at this
      omega
    rcases hkr with k | k | k | k | k | k | k
    · have e : statementK (n + 1) c a = letK (exprK n) (c.noteF a) a := by unfold statementK; simp only; rw [hnode, k]; rfl
      obtain ⟨x, hl, hxr⟩ := sh.right (by omega)
      have hk0 : (c.noteF a).kid a 0 = x := by rw [kd, hl]; rfl
      rw [e] at he ⊢
      rw [let_eq] at he ⊢
      have he : (letC (exprK n) (c.noteF a) a).e = 0 := he
      obtain ⟨_, q1⟩ := if_fails (by decide) he
      have q1 : letC (exprK n) (c.noteF a) a = letB (exprK n) (c.noteF a) a := q1
      rw [q1] at he
      obtain ⟨_, q2⟩ := if_fails (by decide) he
      have q2 : letB (exprK n) (c.noteF a) a = letA (exprK n) (c.noteF a) a := q2
      rw [q2] at he
      unfold letA at he
      rw [hk0] at he
      obtain ⟨b1, b2⟩ := must_ok he
      simp only [Bool.not_eq_true', decide_eq_false_iff_not] at b1
      obtain ⟨r1, r2, r3⟩ := ty_one (c := c) ht h' hc' hv' rfl (by omega) hl hxr hch b2
      have hty : (letC (exprK n) (c.noteF a) a).types = (exprK n (c.noteF a) x).1.types := by rw [q1, q2]; unfold letA; rw [hk0, must_types]
      refine ⟨r1.post hty, fun v hv2 => ?_, fun h => by omega⟩
      have hv2 : v ∈ (letC (exprK n) (c.noteF a) a).vars ++ [(⟨((c.noteF a).node a).name, (exprK n (c.noteF a) ((c.noteF a).kid a 0)).2, (letC (exprK n) (c.noteF a) a).size⟩ : GVar)] := hv2
      rcases List.mem_append.1 hv2 with hm | hm
      · rw [(ev_letC (ev_expr n) (c.noteF a) a).vars] at hm
        exact hv' v hm
      · rw [List.mem_singleton.1 hm]
        show 1 ≤ (exprK n (c.noteF a) ((c.noteF a).kid a 0)).2 ∧ (exprK n (c.noteF a) ((c.noteF a).kid a 0)).2 ≤ 4
        rw [hk0]
        omega
    · have e : statementK (n + 1) c a = (exprK n ((c.noteF a).named a).1 ((c.noteF a).kid a 0)).1.must (decide (((c.noteF a).named a).2 = (exprK n ((c.noteF a).named a).1 ((c.noteF a).kid a 0)).2)) a := by unfold statementK; simp only; rw [hnode, k]; rfl
      obtain ⟨x, hl, hxr⟩ := sh.right (by omega)
      have hk0 : (c.noteF a).kid a 0 = x := by rw [kd, hl]; rfl
      rw [e] at he ⊢
      rw [hk0] at he ⊢
      obtain ⟨b1, b2⟩ := must_ok he
      have en := ev_named (c.noteF a) a
      obtain ⟨r1, _⟩ := ty_one (c := c) ht (h'.ev en) (en.tree.trans hc') (hv'.ev en) (named_types _ _) (by omega) hl hxr hch b2
      exact ⟨r1.post (must_types _ _ _), (hv'.ev en).ev ((ev_expr n _ _).trans (ev_must _ _ _)), fun h => by omega⟩
    · have e : statementK (n + 1) c a = (exprK n (exprK n ((c.noteF a).named a).1 ((c.noteF a).kid a 0)).1 ((c.noteF a).kid a 1)).1.must (decide (((c.noteF a).named a).2 = 4) && decide ((exprK n ((c.noteF a).named a).1 ((c.noteF a).kid a 0)).2 = 1) && decide ((exprK n (exprK n ((c.noteF a).named a).1 ((c.noteF a).kid a 0)).1 ((c.noteF a).kid a 1)).2 = 1)) a := by unfold statementK; simp only; rw [hnode, k]; rfl
      obtain ⟨x, y, hl, hxe, hye⟩ := sh.two (by omega)
      have hk0 : (c.noteF a).kid a 0 = x := by rw [kd, hl]; rfl
      have hk1 : (c.noteF a).kid a 1 = y := by rw [kd, hl]; rfl
      rw [e] at he ⊢
      rw [hk0, hk1] at he ⊢
      obtain ⟨b1, b2⟩ := must_ok he
      have en := ev_named (c.noteF a) a
      have r1 := ty_two (c := c) ht (h'.ev en) (en.tree.trans hc') (hv'.ev en) (named_types _ _) (by omega) hl hxe hye hch (by omega) b2
      exact ⟨r1.post (must_types _ _ _), (hv'.ev en).ev (((ev_expr n _ _).trans (ev_expr n _ _)).trans (ev_must _ _ _)), fun h => by omega⟩
    · have e : statementK (n + 1) c a = (exprK n (c.noteF a) ((c.noteF a).kid a 0)).1 := by unfold statementK; simp only; rw [hnode, k]; rfl
      obtain ⟨x, hl, hxk⟩ := sh.do_ k
      have hk0 : (c.noteF a).kid a 0 = x := by rw [kd, hl]; rfl
      rw [e] at he ⊢
      rw [hk0] at he ⊢
      obtain ⟨r1, _⟩ := ty_one (c := c) ht h' hc' hv' rfl (by omega) hl (by rw [hxk]; unfold isR; omega) hch he
      exact ⟨r1, hv'.ev (ev_expr n _ _), fun h => by omega⟩
    · have e : statementK (n + 1) c a = (exprK n (c.noteF a) ((c.noteF a).kid a 0)).1.must (!decide ((exprK n (c.noteF a) ((c.noteF a).kid a 0)).2 = 4)) a := by unfold statementK; simp only; rw [hnode, k]; rfl
      obtain ⟨x, hl, hxe⟩ := sh.one (by omega)
      have hk0 : (c.noteF a).kid a 0 = x := by rw [kd, hl]; rfl
      rw [e] at he ⊢
      rw [hk0] at he ⊢
      obtain ⟨b1, b2⟩ := must_ok he
      obtain ⟨r1, _⟩ := ty_one (c := c) ht h' hc' hv' rfl (by omega) hl (.inl hxe) hch b2
      exact ⟨r1.post (must_types _ _ _), hv'.ev ((ev_expr n _ _).trans (ev_must _ _ _)), fun h => by omega⟩
    · have e : statementK (n + 1) c a = returnsK (exprK n) (c.noteF a) a := by unfold statementK; simp only; rw [hnode, k]; rfl
      rw [e] at he ⊢
      unfold returnsK at he ⊢
      rw [hnode] at he ⊢
      simp only at he ⊢
      split at he
      · exact (fails_ok (by decide) he).elim
      rename_i hf
      rw [if_neg hf]
      rcases sh.ret k with hl | ⟨x, hl, hxe⟩
      · rw [hl]
        rw [if_neg (by decide)]
        rw [hl] at hch
        have : lo = a.toNat := by cases hch; rfl
        subst this
        exact ⟨⟨.same rfl, .none⟩, hv', fun h => by omega⟩
      · have hk0 : (c.noteF a).kid a 0 = x := by rw [kd, hl]; rfl
        have hl1 : (nth t.nodes a.toNat).l.length = 1 := by rw [hl]; rfl
        rw [if_pos hl1] at he ⊢
        rw [hk0] at he ⊢
        obtain ⟨b1, b2⟩ := must_ok he
        obtain ⟨r1, _⟩ := ty_one (c := c) ht h' hc' hv' rfl (by omega) hl (.inl hxe) hch b2
        exact ⟨r1.post (must_types _ _ _), hv'.ev ((ev_expr n _ _).trans (ev_must _ _ _)), fun h => by omega⟩
    · have e : statementK (n + 1) c a = stmtsK (blockK (statementK n)) ((exprK n (c.noteF a) ((c.noteF a).kid a 0)).1.must (decide ((exprK n (c.noteF a) ((c.noteF a).kid a 0)).2 = 2)) a) (((c.noteF a).node a).l.drop 1) := by
        unfold statementK; simp only; rw [hnode]; rcases k with k | k <;> rw [k] <;> rfl
      have hsh : ∃ x L, (nth t.nodes a.toNat).l = x :: L ∧ isE (kindAt t.nodes x) ∧ ∀ y ∈ L, kindAt t.nodes y = 18 := by
        rcases k with k | k
        · obtain ⟨x, y, hx, hy, hl | ⟨z, hl, hz⟩⟩ := sh.if_ k
          · exact ⟨x, [y], hl, hx, fun u hu => by rw [List.mem_singleton.1 hu]; exact hy⟩
          · exact ⟨x, [y, z], hl, hx, fun u hu => by
              rcases List.mem_cons.1 hu with rfl | hu
              · exact hy
              · rw [List.mem_singleton.1 hu]; exact hz⟩
        · obtain ⟨x, y, hl, hx, hy⟩ := sh.while_ k
          exact ⟨x, [y], hl, hx, fun u hu => by rw [List.mem_singleton.1 hu]; exact hy⟩
      obtain ⟨x, L, hl, hxe, hL⟩ := hsh
      have hk0 : (c.noteF a).kid a 0 = x := by rw [kd, hl]; rfl
      rw [e] at he ⊢
      rw [hnode, hl, hk0] at he ⊢
      have he : (stmtsK (blockK (statementK n)) ((exprK n (c.noteF a) x).1.must (decide ((exprK n (c.noteF a) x).2 = 2)) a) L).e = 0 := he
      show TyR t lo a.toNat c (stmtsK (blockK (statementK n)) ((exprK n (c.noteF a) x).1.must (decide ((exprK n (c.noteF a) x).2 = 2)) a) L) ∧ VarsT (stmtsK (blockK (statementK n)) ((exprK n (c.noteF a) x).1.must (decide ((exprK n (c.noteF a) x).2 = 2)) a) L) ∧ ((nth t.nodes a.toNat).kind = 15 ∨ (nth t.nodes a.toNat).kind = 16 → nth (stmtsK (blockK (statementK n)) ((exprK n (c.noteF a) x).1.must (decide ((exprK n (c.noteF a) x).2 = 2)) a) L).types (nth (x :: L) 0).toNat = 2)
      have ex := (ev_expr n (c.noteF a) x).trans (ev_must _ (decide ((exprK n (c.noteF a) x).2 = 2)) a)
      have hin := h'.ev ex
      have hsb : ∀ (q : Ck) b, CkIn q → q.e = 0 → Sv q (blockK (statementK n) q b) := fun q b hq _ => (sv_block (sv_statement n) hq b).1
      have e1 := (sv_stmts hsb L _ hin).e0 he
      obtain ⟨b1, b2⟩ := must_ok e1
      rw [hl] at hch
      obtain ⟨c1, c2, c3, c4, c5, c6⟩ := chainC hch
      obtain ⟨r1, r1b, _⟩ := ty_expr ht n (c.noteF a) x lo h' hc' hv' c1 c2 (by omega) (.inl hxe) c5 b2
      obtain ⟨r2, v2⟩ := ty_stmts ht hsb (C := fun k => k = 18) (n := n) (fun q b l g1 g2 g3 _ g5 g6 g7 g8 g9 g10 => ty_block ht hs q b l g1 g2 g3 g5 g6 (by omega) g8 g9 g10) L _ (x.toNat + 1) a.toNat hin (ex.tree.trans hc') (hv'.ev ex) (by omega) (by omega) hL c6 he
      exact ⟨((TyR.pre (a := c) (b := c.noteF a) rfl r1).post (must_types _ _ _)).seq ht (Chain.one' c1 c2 c5) (by omega) (by omega) r2, v2, fun _ => by
        show nth _ x.toNat = 2
        rw [r2.tw x.toNat (.inl (by omega)), must_types, r1b]
        exact of_decide_eq_true b1⟩
end Go.Proofs.YtbpmikjlfgfbmaaGreatDoor

namespace Go.Proofs.YtbpmikjlfgfbmaaGreatDoor
open Go Go.Gd
theorem ty_params {t : GTree} (body : Int) : ∀ (ps : List GParam) (c : Ck) (i : Int), VarsT c → (∀ p ∈ ps, 1 ≤ p.ty ∧ p.ty ≤ 4) → VarsT (paramsK body c ps i) ∧ (paramsK body c ps i).types = c.types ∧ ((paramsK body c ps i).e = 0 → c.e = 0)
  | [], c, i, h, hp => by unfold paramsK; exact ⟨h, rfl, id⟩
  | p :: ps, c, i, h, hp => by
    have fin : ∀ c1 : Ck, Ev c c1 → c1.types = c.types → VarsT (paramsK body (addV' c1 ⟨p.name, p.ty, i⟩) ps (i + 1)) ∧ (paramsK body (addV' c1 ⟨p.name, p.ty, i⟩) ps (i + 1)).types = c.types ∧ ((paramsK body (addV' c1 ⟨p.name, p.ty, i⟩) ps (i + 1)).e = 0 → c.e = 0) := fun c1 s e => by
      obtain ⟨a, b, d⟩ := ty_params (t := t) body ps (addV' c1 ⟨p.name, p.ty, i⟩) (i + 1) (fun v hv => by
        have hv : v ∈ c1.vars ++ [(⟨p.name, p.ty, i⟩ : GVar)] := hv
        rcases List.mem_append.1 hv with hv | hv
        · exact h.ev s v hv
        · rw [List.mem_singleton.1 hv]; exact hp p (by simp)) (fun q hq => hp q (by simp [hq]))
      exact ⟨a, b.trans e, fun hh => s.e0 (d hh)⟩
    unfold paramsK
    simp only
    split
    · exact fin _ (ev_fails c (by decide) body) (fails_types _ _ _)
    · exact fin _ (.refl c) rfl
theorem ty_function {t : GTree} (ht : TreeOk t) {c : Ck} (h : CkIn0 c) (hc : c.tree = t) {k : Nat} (hk : k < t.fns.length) (hsz : c.size_.length < 6) {lo : Nat} (hch : Chain t.nodes lo (nth t.nodes (nth t.fns k).body.toNat).l (nth t.fns k).body.toNat) (he : (functionK c k).e = 0) :
    TyR t lo ((nth t.fns k).body.toNat + 1) c (functionK c k) ∧ c.e = 0 := by
  have hk' : k < c.tree.fns.length := by rw [hc]; exact hk
  have hp3 := h.tree.fn _ (nth_mem hk')
  have hi0 : CkIn { c with fn := (k : Int), vars := [], more := [], size := 0 } := ⟨h.tree, h.types, h.slots, h.fns, by show c.size_.length ≤ 6; omega, by show (0 : Int) ≤ k; omega, by show (k : Int) < (c.tree.fns.length : Int); omega, by show ((0 : Nat) : Int) ≤ 0; omega, by show (0 : Int) ≤ 25; omega, fun _ => by show (0 : Int) ≤ 24; omega⟩
  obtain ⟨a, b, d⟩ := in_params (nth c.tree.fns k).body (nth c.tree.fns k).params _ 0 hi0 (by show (0 : Int) + _ ≤ 20; omega)
  obtain ⟨a', b', d'⟩ := ty_params (t := t) (nth c.tree.fns k).body (nth c.tree.fns k).params { c with fn := (k : Int), vars := [], more := [], size := 0 } 0 (fun v hv => by simp at hv) hp3.1.ps
  have hbN := isN_body ht hk
  have hbk := ht.body _ (nth_mem hk)
  unfold functionK at he ⊢
  simp only at he ⊢
  rw [hc] at he ⊢
  rw [hc] at a b d a' b' d'
  split at he
  · rename_i e1
    rw [if_pos e1]
    obtain ⟨r, _⟩ := ty_block ht (ty_stmt ht t.nodes.length) _ (nth t.fns k).body lo a (b.trans (by rfl)) a' hbN.1 hbN.2 (by have := hbN.2; have := hbN.1; omega) hbk hch he
    have q := TyR.pre (a := c) b' r
    exact ⟨⟨fun k hk => q.tw k hk, q.all⟩, d' e1⟩
  · rename_i e1
    exact (e1 he).elim
theorem ty_functions {t : GTree} (ht : TreeOk t) : ∀ (n i lo : Nat) (c : Ck), CkIn0 c → c.tree = t → c.size_.length = i → i + n = t.fns.length → Chain t.nodes lo ((t.fns.drop i).map (·.body)) t.nodes.length → (functionsK c i n).e = 0 →
    TyR t lo t.nodes.length c (functionsK c i n) ∧ (functionsK c i n).tree = t ∧ CkIn0 (functionsK c i n) ∧ (functionsK c i n).size_.length = t.fns.length
  | 0, i, lo, c, h, hc, hs, hi, hch, he => by
    unfold functionsK
    rw [List.drop_eq_nil_of_le (by omega)] at hch
    have : lo = t.nodes.length := by cases hch; rfl
    subst this
    exact ⟨⟨.refl _ _ _, .none⟩, hc, h, by omega⟩
  | n + 1, i, lo, c, h, hc, hs, hi, hch, he => by
    have h6 := ht.fns
    unfold functionsK at he ⊢
    by_cases e0 : c.e = 0
    · rw [if_pos e0] at he ⊢
      have hk : i < t.fns.length := by omega
      rw [drop_nth hk] at hch
      obtain ⟨c1, c2, c3, c4, c5, c6⟩ := chainC (a := (nth t.fns i).body) hch
      obtain ⟨f1, f2, f3⟩ := in_function h (by rw [hc]; exact hk) (by omega : c.size_.length < 6)
      have e1 : (functionK c i).e = 0 := by
        cases n with
        | zero => unfold functionsK at he; exact he
        | succ m =>
          unfold functionsK at he
          split at he
          · assumption
          · exact he
      obtain ⟨r1, _⟩ := ty_function ht h hc hk (by omega) c5 e1
      obtain ⟨r2, q1, q2, q3⟩ := ty_functions ht n (i + 1) ((nth t.fns i).body.toNat + 1) (functionK c i) f1 (f2.trans hc) (by omega) (by omega) c6 he
      exact ⟨r1.seq ht (Chain.one' c1 c2 c5) (by omega) (by omega) r2, q1, q2, q3⟩
    · rw [if_neg e0] at he
      exact (e0 he).elim
/-- A program that was checked. -/
structure POk (p : GProg) : Prop where
  tree : TreeOk p.tree
  types : p.types.length = p.tree.nodes.length
  slots : p.slots.length = p.tree.nodes.length
  fn : p.fn.length = p.tree.nodes.length
  size : p.size.length = p.tree.fns.length
  ty : TyAll p.tree p.types 0 p.tree.nodes.length
theorem heads_in {t : GTree} (ht : TreeOk t) : CkIn0 (headsK (ck0 t)) ∧ (headsK (ck0 t)).tree = t ∧ (headsK (ck0 t)).size_ = [] := by
  have ev := ev_heads (ck0 t)
  refine ⟨⟨by rw [ev.tree]; exact ht, ?_, ?_, ?_⟩, ev.tree, ev.size_⟩
  · rw [ev.types, ev.tree]; show (t.nodes.map _).length = t.nodes.length; simp
  · rw [ev.slots, ev.tree]; show (t.nodes.map _).length = t.nodes.length; simp
  · rw [ev.fns, ev.tree]; show (t.nodes.map _).length = t.nodes.length; simp
theorem check_ok {t : GTree} (ht : TreeOk t) (he : (checkAll t).2.2 = 0) : POk (checkAll t).1 ∧ (checkAll t).1.tree = t := by
  unfold checkAll at he ⊢
  split at he
  · rename_i h; exact (h he).elim
  rename_i h
  rw [if_neg h]
  have h : (ckAll t).e = 0 := by omega
  obtain ⟨i1, i2, i3⟩ := heads_in ht
  obtain ⟨r, q1, q2, q3⟩ := ty_functions ht t.fns.length 0 0 (headsK (ck0 t)) i1 i2 (by rw [i3]; rfl) (by omega) (by rw [List.drop_zero]; exact ht.chain) h
  refine ⟨⟨q2.tree, q2.types, q2.slots, q2.fns, ?_, ?_⟩, q1⟩
  · show (ckAll t).size_.length = (ckAll t).tree.fns.length
    have e : (ckAll t).tree = t := q1
    rw [e]; exact q3
  · show TyAll (ckAll t).tree (ckAll t).types 0 (ckAll t).tree.nodes.length
    have e : (ckAll t).tree = t := q1
    rw [e]; exact r.all
theorem source_ok {s : ByteArray} (he : (sourceF s).2.2 = 0) : POk (sourceF s).1 := by
  unfold sourceF at he ⊢
  split at he
  · rename_i h; exact (h he).elim
  rename_i h
  rw [if_neg h]
  have h : (parseAll s).2.2 = 0 := by omega
  simp only at he ⊢
  split at he
  · cases he
  rename_i h2
  split at he
  · rename_i h3; exact (h3 he).elim
  rename_i h3
  rw [if_neg h2, if_neg h3]
  exact (check_ok (parse_ok h) (by omega)).1
end Go.Proofs.YtbpmikjlfgfbmaaGreatDoor

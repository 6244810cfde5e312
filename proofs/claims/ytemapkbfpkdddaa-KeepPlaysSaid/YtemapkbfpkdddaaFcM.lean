/- Structs of numbers, texts and bools held against each other. No conditions. -/
import Derived.Test.YtemapkbfpkdddaaFcD
import Derived.WalkKit
import Derived.Laws.StructEq
set_option linter.all false
namespace Go.Fc
open Go

section
variable {P : Program} {w : World} {H : Hp}

theorem raw_inv {v u : Value} (h : RelV w H (.raw v) u) : u = v := by cases h; rfl
theorem beq_dec (a b : Int) : (a == b) = decide (a = b) := by rw [Bool.eq_iff_iff]; simp
theorem toList_eq_iff (a b : ByteArray) : (a.toList == b.toList) = decide (a = b) := by
  rw [Bool.eq_iff_iff, beq_iff_eq, decide_eq_true_iff]
  constructor
  · intro h
    exact ByteArray.ext (by simpa [ByteArray.toList_eq] using h)
  · rintro rfl; rfl


theorem kindA_spec {a : AV} {lk : LK} (h : kindA a = some lk) : match lk with
    | .int k => ∃ n, a = .raw (.int k n)
    | .str => ∃ s, a = .raw (.string s)
    | .bool => ∃ b, a = .raw (.bool b) := by
  unfold kindA at h
  split at h <;> cases h <;> exact ⟨_, rfl⟩
theorem eqL_append : ∀ {a c b d : List AV}, a.map kindA = c.map kindA → (∀ x ∈ a, (kindA x).isSome = true) → eqL (a ++ b) (c ++ d) = (eqL a c && eqL b d)
  | [], [], b, d, _, _ => by simp [eqL]
  | [], _ :: _, _, _, h, _ => by simp at h
  | _ :: _, [], _, _, h, _ => by simp at h
  | x :: a, y :: c, b, d, h, hs => by
    simp only [List.map_cons, List.cons.injEq] at h
    have ih := eqL_append (b := b) (d := d) h.2 (fun z hz => hs z (by simp [hz]))
    obtain ⟨lk, hx⟩ := Option.isSome_iff_exists.1 (hs x (by simp))
    have hy := h.1.symm.trans hx
    have h1 := kindA_spec hx
    have h2 := kindA_spec hy
    cases lk <;> (obtain ⟨u, rfl⟩ := h1; obtain ⟨v, rfl⟩ := h2; simp only [List.cons_append, eqL, ih, Bool.and_assoc])

theorem kinds_some {cs : List AV} {ks : List LK} (h : cs.map kindA = ks.map some) : (∀ x ∈ cs, (kindA x).isSome = true) ∧ cs.length = ks.length := by
  refine ⟨fun x hx => ?_, by have := congrArg List.length h; simpa using this⟩
  have : kindA x ∈ cs.map kindA := List.mem_map.2 ⟨x, hx, rfl⟩
  rw [h] at this
  obtain ⟨k, _, hk⟩ := List.mem_map.1 this
  rw [← hk]; rfl

theorem leaf_eq {t : TypeId} {lk : LK} {a b : AV} {va vb : Value} (ht : P.underlying t = some (match lk with | .int k => .int k | .str => .string | .bool => .bool)) (ha : RelV w H a va) (hb : RelV w H b vb) (hka : kindA a = some lk) (hkb : kindA b = some lk) (d : Nat) :
    (Op.equalIn (d + 1) t va vb).run P w = .ok (eqL [a] [b]) w := by
  have h1 := kindA_spec hka
  have h2 := kindA_spec hkb
  cases lk with
  | int k =>
    obtain ⟨m, rfl⟩ := h1; obtain ⟨n, rfl⟩ := h2
    have := raw_inv ha; have := raw_inv hb; subst_vars
    rw [run_equalIn_int w d t k k _ _ ht]
    simp [eqL, beq_dec]
  | str =>
    obtain ⟨m, rfl⟩ := h1; obtain ⟨n, rfl⟩ := h2
    have := raw_inv ha; have := raw_inv hb; subst_vars
    rw [run_equalIn_string w d t _ _ ht, toList_eq_iff]
    simp [eqL]
  | bool =>
    obtain ⟨m, rfl⟩ := h1; obtain ⟨n, rfl⟩ := h2
    have := raw_inv ha; have := raw_inv hb; subst_vars
    rw [run_equalIn_bool w d t _ _ ht]
    simp [eqL]

/-- The value of a type, of its cells. -/
def CellsOf (P : Program) (t : TypeId) (v : Value) (vs : List Value) : Prop := (isAggT P t = some true ∧ v = .agg vs.toArray) ∨ (isAggT P t = some false ∧ vs = [v])

theorem part_run {t : TypeId} {xs : Array Value} {off k : Nat} (hag : (isAggT P t).isSome = true) (hsz : szOf P t = some k) (h1 : isAggT P t = some false → k = 1) (hfit : off + k ≤ xs.size) :
    ∃ v, (part t xs off).run P w = .ok v w ∧ CellsOf P t v ((xs.toList.drop off).take k) := by
  obtain ⟨ag, hag⟩ := Option.isSome_iff_exists.1 hag
  cases ag with
  | true =>
    refine ⟨.agg (xs.extract off (off + k)), by simp [part, run_isAgg' hag, run_sizeOf' hsz], .inl ⟨hag, ?_⟩⟩
    congr 1
    apply Array.ext'
    simp [Array.toList_extract, List.extract_eq_take_drop]
  | false =>
    obtain rfl := h1 hag
    have h2 : xs[off]? = some (xs[off]'(by omega)) := Array.getElem?_eq_getElem (by omega)
    refine ⟨xs[off]'(by omega), by simp [part, run_isAgg' hag, h2], .inr ⟨hag, ?_⟩⟩
    rw [List.drop_eq_getElem_cons (by simp; omega)]
    simp

theorem relL_drop {cs : List AV} {vs : List Value} (h : RelL w H cs vs) (n : Nat) : RelL w H (cs.drop n) (vs.drop n) := ⟨by simp [h.1], fun i a v ha hv => h.2 (n + i) a v (by simpa using ha) (by simpa using hv)⟩
theorem relL_take {cs : List AV} {vs : List Value} (h : RelL w H cs vs) (n : Nat) : RelL w H (cs.take n) (vs.take n) := ⟨by simp [h.1], fun i a v ha hv => by
  rw [List.getElem?_take] at ha hv
  split at ha
  · rename_i hi; rw [if_pos hi] at hv; exact h.2 i a v ha hv
  · cases ha⟩

theorem eq_leaves : ∀ (n : Nat), (∀ (t : TypeId) (ks : List LK), leafKinds P n t = some ks → ∀ (d : Nat) (v v' : Value) (cs ds : List AV) (vs us : List Value), CellsOf P t v vs → CellsOf P t v' us → RelL w H cs vs → RelL w H ds us → cs.map kindA = ks.map some → ds.map kindA = ks.map some →
      (Op.equalIn (d + n) t v v').run P w = .ok (eqL cs ds) w) := by
  intro n
  induction n with
  | zero => intro t ks h; simp [leafKinds] at h
  | succ n ih =>
    intro t ks hk d v v' cs ds vs us hv hv' hcs hds h1 h2
    have leaf : ∀ lk : LK, P.underlying t = some (match lk with | .int k => .int k | .str => .string | .bool => .bool) → ks = [lk] → isAggT P t = some false → (Op.equalIn (d + (n + 1)) t v v').run P w = .ok (eqL cs ds) w := by
      rintro lk ht rfl hag
      have e1 : vs = [v] := by
        rcases hv with ⟨h, _⟩ | ⟨_, h⟩
        · rw [hag] at h; cases h
        · exact h
      have e2 : us = [v'] := by
        rcases hv' with ⟨h, _⟩ | ⟨_, h⟩
        · rw [hag] at h; cases h
        · exact h
      subst e1 e2
      match cs, ds, h1, h2 with
      | [a], [b], h1, h2 =>
        exact leaf_eq ht (hcs.2 0 _ _ rfl rfl) (hds.2 0 _ _ rfl rfl) (by simpa using h1) (by simpa using h2) (d + n)
    unfold leafKinds at hk
    split at hk
    · rename_i k hu; exact leaf (.int k) hu (by simpa using hk.symm) (by simp [isAggT, hu])
    · rename_i hu; exact leaf .str hu (by simpa using hk.symm) (by simp [isAggT, hu])
    · rename_i hu; exact leaf .bool hu (by simpa using hk.symm) (by simp [isAggT, hu])
    · rename_i fs hu
      split at hk
      · cases hk
      · rename_i hst
        have hag : isAggT P t = some true := by simp [isAggT, hu]
        have e1 : v = .agg vs.toArray := by
          rcases hv with ⟨_, h⟩ | ⟨h, _⟩
          · exact h
          · rw [hag] at h; cases h
        have e2 : v' = .agg us.toArray := by
          rcases hv' with ⟨_, h⟩ | ⟨h, _⟩
          · exact h
          · rw [hag] at h; cases h
        subst e1 e2
        have hf : P.fieldsOf t = fs := by simp [Program.fieldsOf, hu]
        rw [show d + (n + 1) = (d + n) + 1 by omega, run_equalIn_struct w (d + n) t _ _ (by rw [hf]; exact hu) (by simpa using hst), hf]
        have gen : ∀ (l : List Field) (off : Nat) (ks : List LK), leafFields P (leafKinds P n) off l = some ks → off ≤ cs.length → off ≤ ds.length → (cs.drop off).map kindA = ks.map some → (ds.drop off).map kindA = ks.map some →
            (Op.eqFields (d + n) vs.toArray us.toArray l).run P w = .ok (eqL (cs.drop off) (ds.drop off)) w := by
          intro l
          induction l with
          | nil =>
            intro off ks hk _ _ g1 g2
            simp only [leafFields, Option.some.injEq] at hk
            subst hk
            have c1 : cs.drop off = [] := by simpa using g1
            have c2 : ds.drop off = [] := by simpa using g2
            rw [c1, c2]; simp [Op.eqFields, eqL]
          | cons f l ihl =>
            intro off ks hk o1 o2 g1 g2
            unfold leafFields at hk
            split at hk
            · rename_i hno
              obtain ⟨hname, rfl⟩ := hno
              split at hk
              · rename_i ks1 k e1 e2
                split at hk
                · rename_i hkl
                  simp only [Option.map_eq_some_iff] at hk
                  obtain ⟨ks2, hk2, rfl⟩ := hk
                  have l1 := (kinds_some g1).2
                  have l2 := (kinds_some g2).2
                  have ag : (isAggT P f.type).isSome = true ∧ (isAggT P f.type = some false → k = 1) := by
                    cases n with
                    | zero => simp [leafKinds] at e1
                    | succ n =>
                      unfold leafKinds at e1
                      split at e1
                      · rename_i hu; refine ⟨by simp [isAggT, hu], fun _ => ?_⟩; cases e1; exact hkl.symm
                      · rename_i hu; refine ⟨by simp [isAggT, hu], fun _ => ?_⟩; cases e1; exact hkl.symm
                      · rename_i hu; refine ⟨by simp [isAggT, hu], fun _ => ?_⟩; cases e1; exact hkl.symm
                      · rename_i hu; exact ⟨by simp [isAggT, hu], fun h => by simp [isAggT, hu] at h⟩
                      · cases e1
                  have hvl := hcs.1
                  have hul := hds.1
                  simp only [List.length_drop, List.length_append] at l1 l2
                  obtain ⟨x, hx, cx⟩ := part_run (P := P) (w := w) (xs := vs.toArray) (off := f.offset) ag.1 e2 ag.2 (by simp; omega)
                  obtain ⟨y, hy, cy⟩ := part_run (P := P) (w := w) (xs := us.toArray) (off := f.offset) ag.1 e2 ag.2 (by simp; omega)
                  simp only [List.map_append] at g1 g2
                  have split1 : ∀ {zs : List AV}, (zs.drop f.offset).map kindA = ks1.map some ++ ks2.map some → ((zs.drop f.offset).take k).map kindA = ks1.map some ∧ (zs.drop (f.offset + k)).map kindA = ks2.map some := by
                    intro zs h
                    have e : k = (ks1.map some).length := by simp [hkl]
                    constructor
                    · rw [List.map_take, h, e, List.take_left']; rfl
                    · rw [← List.drop_drop, List.map_drop, h, e, List.drop_left']; rfl
                  obtain ⟨a1, a2⟩ := split1 g1
                  obtain ⟨b1, b2⟩ := split1 g2
                  have heq := ih f.type ks1 e1 d x y _ _ _ _ cx cy (relL_take (relL_drop hcs f.offset) k) (relL_take (relL_drop hds f.offset) k) a1 b1
                  have hrest := ihl (f.offset + k) ks2 hk2 (by omega) (by omega) a2 b2
                  have hsplit : eqL (cs.drop f.offset) (ds.drop f.offset) = (eqL ((cs.drop f.offset).take k) ((ds.drop f.offset).take k) && eqL (cs.drop (f.offset + k)) (ds.drop (f.offset + k))) := by
                    rw [← eqL_append (by rw [a1, b1]) (kinds_some a1).1, ← List.drop_drop, ← List.drop_drop, List.take_append_drop, List.take_append_drop]
                  simp only [Op.eqFields, ne_eq, hname, not_false_eq_true, if_true, Sem.run_bind, hx, hy, heq, Result.andThen_ok]
                  rw [hsplit]
                  cases hb : eqL ((cs.drop f.offset).take k) ((ds.drop f.offset).take k)
                  · simp
                  · simp only [Bool.not_true, Bool.false_eq_true, if_false, Bool.true_and]; exact hrest
                · cases hk
              · cases hk
            · cases hk
        have := gen fs.toList 0 ks hk (Nat.zero_le _) (Nat.zero_le _) (by simpa using h1) (by simpa using h2)
        simpa using this
    · cases hk

theorem agg_eq {ne : Bool} {t : TypeId} {cs ds : List AV} {va vb : Value} {ks : List LK} {x y : Operand} (hk : eqKinds P t = some ks) (hag : isAggT P t = some true) (h1 : cs.map kindA = ks.map some) (h2 : ds.map kindA = ks.map some) (ha : RelV w H (.agg cs) va) (hb : RelV w H (.agg ds) vb) :
    ∃ v, (do eqGuard (if ne then .neq else .eql) t x y va vb; binOp (if ne then .neq else .eql) t va vb : Sem Value).run P w = .ok v w ∧ RelV w H (.raw (.bool (ne ^^ eqL cs ds))) v := by
  unfold eqKinds at hk
  split at hk
  · cases hk
  · rename_i hg
    cases ha with | agg _ vs l1 r1 =>
    cases hb with | agg _ us l2 r2 =>
    have he := eq_leaves (P := P) (w := w) (H := H) 8 t ks hk 9992 (.agg vs) (.agg us) cs ds vs.toList us.toList (.inl ⟨hag, by simp⟩) (.inl ⟨hag, by simp⟩) ⟨by simpa using l1, fun i a v ha hv => r1 i a v ha (by simpa using hv)⟩ ⟨by simpa using l2, fun i a v ha hv => r2 i a v ha (by simpa using hv)⟩ h1 h2
    have hgr : ∀ op, (eqGuard op t x y (.agg vs) (.agg us)).run P w = .ok () w := fun op => run_eqGuard_agg w op t x y vs us (by simpa using hg)
    have he' : (Op.equalIn 10000 t (.agg vs) (.agg us)).run P w = .ok (eqL cs ds) w := he
    cases ne
    · simp only [Bool.false_eq_true, if_false, Sem.run_bind, hgr, Result.andThen_ok, run_eql_struct, he']
      exact ⟨_, rfl, by simpa using RelV.raw _⟩
    · simp only [if_true, Sem.run_bind, hgr, Result.andThen_ok, run_neq_struct, he']
      exact ⟨_, rfl, by simpa using RelV.raw _⟩
end
end Go.Fc

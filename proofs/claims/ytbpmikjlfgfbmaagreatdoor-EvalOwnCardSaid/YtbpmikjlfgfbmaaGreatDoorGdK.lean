/- Calls by contract; things that are let go of, or read only from then on, or lent. Lists of Lean data as slices; small rules for the walks. No conditions. -/
import Derived.Test.YtbpmikjlfgfbmaaGreatDoorGdI
set_option linter.all false
namespace Go.Gd
open Go

-- encoders of Lean data
class EncOK {α : Type} (enc : α → List AV) (sz : outParam Nat) : Prop where
  len : ∀ x, (enc x).length = sz
  ones : ∀ x, ones (enc x) = true
  free : ∀ x, allL noQ (enc x) = true

/-- Elements that hold names of which q holds only. -/
def QL (q : Nat → Bool) (css : List (List AV)) : Prop := ∀ cs ∈ css, allL q cs = true
def rowQ (q : Nat → Bool) : Row → Prop
  | .var _ cs => allL q cs = true
  | .vec _ _ css => QL q css
theorem allL_append {q : Nat → Bool} : ∀ (a b : List AV), allL q (a ++ b) = (allL q a && allL q b)
  | [], b => by simp [allL]
  | x :: a, b => by simp [allL, allL_append a b, Bool.and_assoc]
theorem allL_flatten {q : Nat → Bool} : ∀ {css : List (List AV)}, QL q css → allL q css.flatten = true
  | [], _ => rfl
  | cs :: css, h => by
    rw [List.flatten_cons, allL_append, h cs (by simp), allL_flatten (css := css) fun c hc => h c (by simp [hc])]; rfl
theorem rowQ_cells {q : Nat → Bool} {r : Row} (h : rowQ q r) : allL q r.cells = true := by
  cases r with
  | var t cs => exact h
  | vec e sz css => exact allL_flatten h
theorem ql_nil (q : Nat → Bool) : QL q [] := fun _ h => by simp at h
theorem ql_cons {q : Nat → Bool} {cs : List AV} {css : List (List AV)} (h : allL q cs = true) (k : QL q css) : QL q (cs :: css) := fun c hc => by
  rcases List.mem_cons.1 hc with rfl | hc
  · exact h
  · exact k c hc
theorem ql_append {q : Nat → Bool} {a b : List (List AV)} (h : QL q a) (k : QL q b) : QL q (a ++ b) := fun c hc => (List.mem_append.1 hc).elim (h c) (k c)
theorem ql_map {q : Nat → Bool} {α : Type} {enc : α → List AV} {sz : Nat} [e : EncOK enc sz] (l : List α) : QL q (l.map enc) := fun c hc => by
  obtain ⟨x, _, rfl⟩ := List.mem_map.1 hc
  exact allL_mono (fun _ h => by cases h) _ (e.free x)
theorem ql_take {q : Nat → Bool} {a : List (List AV)} (n : Nat) (h : QL q a) : QL q (a.take n) := fun c hc => h c (List.mem_of_mem_take hc)
theorem ql_drop {q : Nat → Bool} {a : List (List AV)} (n : Nat) (h : QL q a) : QL q (a.drop n) := fun c hc => h c (List.mem_of_mem_drop hc)
theorem ql_set {q : Nat → Bool} {a : List (List AV)} {n : Nat} {c : List AV} (h : QL q a) (hc : allL q c = true) : QL q (a.set n c) := fun d hd => by
  rcases List.mem_or_eq_of_mem_set hd with hd | rfl
  · exact h d hd
  · exact hc
theorem ql_rep {q : Nat → Bool} {n : Nat} {c : List AV} (hc : allL q c = true) : QL q (List.replicate n c) := fun d hd => by rw [(List.mem_replicate.1 hd).2]; exact hc
theorem good_nil (sz : Nat) : Good sz [] := fun _ h => by simp at h
theorem good_cons {sz : Nat} {cs : List AV} {css : List (List AV)} (h1 : cs.length = sz) (h2 : ones cs = true) (k : Good sz css) : Good sz (cs :: css) := fun c hc => by
  rcases List.mem_cons.1 hc with rfl | hc
  · exact ⟨h1, h2⟩
  · exact k c hc
theorem good_append {sz : Nat} {a b : List (List AV)} (h : Good sz a) (k : Good sz b) : Good sz (a ++ b) := fun c hc => (List.mem_append.1 hc).elim (h c) (k c)
theorem good_map {α : Type} {enc : α → List AV} {sz : Nat} [e : EncOK enc sz] (l : List α) : Good sz (l.map enc) := fun c hc => by
  obtain ⟨x, _, rfl⟩ := List.mem_map.1 hc
  exact ⟨e.len x, e.ones x⟩
theorem good_take {sz : Nat} {a : List (List AV)} (n : Nat) (h : Good sz a) : Good sz (a.take n) := fun c hc => h c (List.mem_of_mem_take hc)
theorem good_drop {sz : Nat} {a : List (List AV)} (n : Nat) (h : Good sz a) : Good sz (a.drop n) := fun c hc => h c (List.mem_of_mem_drop hc)

-- calls

/-- What a function is handed is there. -/
def fits : List (Nat × Row) → Hp → Prop
  | [], _ => True
  | (i, r) :: l, H => H.get i = some r ∧ fits l H
theorem fits_get : ∀ {l : List (Nat × Row)} {H : Hp}, fits l H → ∀ i r, lget l i = some r → H.get i = some r
  | [], _, _, i, r, h => by cases h
  | (j, s) :: l, H, hf, i, r, h => by
    simp only [lget] at h
    split at h
    · rename_i e; subst e; cases h; exact hf.1
    · exact fits_get hf.2 i r h
/-- It names nothing beyond that. -/
def shut (q : Nat → Bool) : List (Nat × Row) → Prop
  | [] => True
  | (_, r) :: l => rowQ q r ∧ shut q l
theorem shut_get {q : Nat → Bool} : ∀ {l : List (Nat × Row)}, shut q l → ∀ i r, lget l i = some r → allL q r.cells = true
  | [], _, i, r, h => by cases h
  | (j, s) :: l, hf, i, r, h => by
    simp only [lget] at h
    split at h
    · cases h; exact rowQ_cells hf.1
    · exact shut_get hf.2 i r h
/-- What is new has numbers that are free. -/
def fresh (L : List Nat) (H : Hp) : List (Nat × Row) → Prop
  | [] => True
  | (i, _) :: l => (L.contains i = true ∨ H.get i = none) ∧ fresh L H l
theorem fresh_get {L : List Nat} {H : Hp} : ∀ {l : List (Nat × Row)}, fresh L H l → ∀ i r, lget l i = some r → L.contains i = true ∨ H.get i = none
  | [], _, i, r, h => by cases h
  | (j, s) :: l, hf, i, r, h => by
    simp only [lget] at h
    split at h
    · rename_i e; subst e; exact hf.1
    · exact fresh_get hf.2 i r h
section
variable {P : Program} {f : FuncId} {args : List AV} {H : Hp} {l : List (Nat × Row)} {K : AV → Hp → Prop}
theorem hcall_rel {R : AV → List (Nat × Row) → Prop} (hc : ACalls P f args l R) (h1 : fits l H) (h2 : allL (fun i => (ids l).contains i) args = true) (h3 : shut (fun i => (ids l).contains i) l)
    (hk : ∀ r l', R r l' → fresh (ids l) H l' ∧ (ids l').Nodup ∧ K r ⟨H.B, lputs H.l l'⟩) : HCalls P f args H K := fun _ _ hw hv =>
  acall_frame hc (fits_get h1) h2 (shut_get h3) (fun r l' hR => ⟨fresh_get (hk r l' hR).1, (hk r l' hR).2⟩) hw hv
theorem hcall_fun {r0 : AV} {l0 : List (Nat × Row)} (hc : ACalls P f args l fun r l' => r = r0 ∧ l' = l0) (h1 : fits l H) (h2 : allL (fun i => (ids l).contains i) args = true) (h3 : shut (fun i => (ids l).contains i) l)
    (h4 : fresh (ids l) H l0) (h5 : (ids l0).Nodup) (hk : K r0 ⟨H.B, lputs H.l l0⟩) : HCalls P f args H K :=
  hcall_rel hc h1 h2 h3 fun r l' ⟨e1, e2⟩ => by rw [e1, e2]; exact ⟨h4, h5, hk⟩
theorem hcall_pure {r : AV} (hc : PCall P f args r) (h2 : allL noQ args = true) (hk : K r H) : HCalls P f args H K :=
  hcall_fun hc trivial (by simpa [ids] using h2) trivial trivial (by simp [ids]) hk
theorem vcall_at {first captured : Array Value} {args : List AV} (hc : callable P f = true) (h : HCalls P f (first.toList.map .raw ++ args ++ captured.toList.map .raw) H K) : vCall P (.raw (.func (.func f) first captured)) args H K := .inl ⟨hc, h⟩
theorem vcall_raw {args : List AV} (hc : callable P f = true) (h : HCalls P f args H K) : vCall P (.raw (.func (.func f) #[] #[])) args H K := .inl ⟨hc, by simpa using h⟩
theorem vcall_clo {cs : List AV} {args : List AV} (hc : callable P f = true) (h : HCalls P f (args ++ cs) H K) : vCall P (.clo f cs) args H K := .inl ⟨hc, by simpa using h⟩
theorem vcall_ext {args : List AV} (h : ExtVC P f args H K) : vCall P (.raw (.func (.func f) #[] #[])) args H K := .inr (by simpa using h)
end

-- things of which D holds are let go of, and may be read from then on

def ldelS (D : Nat → Bool) : List (Nat × Row) → List (Nat × Row)
  | [] => []
  | (j, s) :: l => bif D j then ldelS D l else (j, s) :: ldelS D l
theorem lget_ldelS (D : Nat → Bool) : ∀ (l : List (Nat × Row)) (i : Nat), lget (ldelS D l) i = if D i = true then none else lget l i
  | [], i => by simp [ldelS, lget]
  | (k, s) :: l, i => by
    have ih := lget_ldelS D l i
    unfold ldelS
    cases hk : D k
    · simp only [cond_false, lget]
      split
      · rename_i h; subst h; rw [hk]; simp
      · exact ih
    · simp only [cond_true, lget]
      rw [ih]
      split
      · rfl
      · rename_i h
        rw [if_neg]
        rintro rfl
        exact h hk
def NW.freeS (w : NW) (D : Nat → Bool) : NW := { w with O := fun b => w.O b ∧ ∀ i m t s, D i = true → w.nm i m ≠ some (.at b t s), nm := fun j n => if D j = true then none else w.nm j n }
def notQ (D : Nat → Bool) : Nat → Bool := fun i => !(D i)
/-- What stays names nothing of it. -/
def stay (D : Nat → Bool) : List (Nat × Row) → Prop
  | [] => True
  | (j, r) :: l => (D j = true ∨ rowQ (notQ D) r) ∧ stay D l
theorem stay_get {D : Nat → Bool} : ∀ {l : List (Nat × Row)}, stay D l → ∀ {i : Nat} {r : Row}, lget l i = some r → D i = false → allL (notQ D) r.cells = true
  | [], _, i, r, h, _ => by cases h
  | (j, s) :: l, hf, i, r, h, hd => by
    simp only [lget] at h
    split at h
    · rename_i e; subst e; cases h
      rcases hf.1 with h | h
      · rw [hd] at h; cases h
      · exact rowQ_cells h
    · exact stay_get hf.2 h hd
theorem keep_freeS (w : NW) (D : Nat → Bool) : Keep (notQ D) w (w.freeS D) := ⟨Nat.le_refl _, fun b _ h => ⟨rfl, fun h' => h h'.1⟩, fun j n z hq h => by
  show (if D j = true then none else w.nm j n) = _
  rw [if_neg (by unfold notQ at hq; intro e; rw [e] at hq; cases hq)]; exact h⟩
theorem own_freeS {w : NW} {H : Hp} (r : RelW w H) {D : Nat → Bool} (hB : H.B.all (notQ D) = true) (hl : stay D H.l) : RelW (w.freeS D) ⟨H.B, ldelS D H.l⟩ ∧ ExtB w H (w.freeS D) ⟨H.B, ldelS D H.l⟩ := by
  have nmE : ∀ j n, (w.freeS D).nm j n = if D j = true then none else w.nm j n := fun _ _ => rfl
  have gE : ∀ j, (Hp.mk H.B (ldelS D H.l)).get j = if D j = true then none else H.get j := fun j => lget_ldelS D H.l j
  refine ⟨{ rows := fun j s hj => ?_, dom := fun j n z hz => ?_, inj := fun j n j' n' b t s t' s' h1 h2 => ?_, own := fun j n b t s h => ?_, fin := fun b hb => r.fin b hb.1, glob := r.glob.keep (keep_freeS w D) }, { keep_freeS w D with names := fun j n z hq h => ?_, os := rfl, tape := rfl, output := rfl, rest := fun b hb hO hno => ⟨rfl, ⟨hO, fun i m t s _ => hno _ _ _ _⟩, fun j n t s h => ?_⟩, base := rfl }⟩
  · rw [gE] at hj
    split at hj
    · cases hj
    · rename_i e
      obtain ⟨h1, z, h2, h3⟩ := r.rows j s hj
      refine ⟨h1, z, by rw [nmE, if_neg e]; exact h2, ?_⟩
      cases z with
      | nil => exact h3
      | «at» b t st =>
        obtain ⟨g1, cur, g2, g3, g4, g5⟩ := h3
        exact ⟨g1, cur, g2, g3, g4, fun k a v ha hv => (g5 k a v ha hv).keep (keep_freeS w D) (allL_get (stay_get hl hj (by simpa using e)) ha)⟩
  · rw [nmE] at hz
    split at hz
    · cases hz
    · rename_i e
      obtain ⟨r', h1, h2⟩ := r.dom j n z hz
      exact ⟨r', by rw [gE, if_neg e]; exact h1, h2⟩
  · rw [nmE] at h1 h2
    split at h1
    · cases h1
    · split at h2
      · cases h2
      · exact r.inj _ _ _ _ _ _ _ _ _ h1 h2
  · rw [nmE] at h
    split at h
    · cases h
    · rename_i e
      exact ⟨r.own _ _ _ _ _ h, fun i m t' s' hd h' => e (by rw [r.inj _ _ _ _ _ _ _ _ _ h h']; exact hd)⟩
  · have hq : H.B.contains j = true := hq
    have := List.all_eq_true.1 hB j (List.contains_iff_mem.1 hq)
    rw [nmE, if_neg (by intro e; unfold notQ at this; rw [e] at this; cases this)]; exact h
  · rw [nmE] at h
    split at h
    · cases h
    · exact hno _ _ _ _ h

/-- How it reads then. -/
inductive VTo (D : Nat → Bool) (H : Hp) : AV → AV → Prop
  | same (a : AV) (h : a.all (notQ D) = true) : VTo D H a a
  | drop (a : AV) : VTo D H a .any
  | nil (sz : Nat) (d : List AV) : VTo D H (.raw (.slice none 0 0)) (.sl false sz [] d)
  | lit (x : Bool) (sz : Nat) (css : List (List AV)) (d d' : List AV) : VTo D H (.sl x sz css d) (.sl false sz css d')
  | agg (cs ds : List AV) (hl : cs.length = ds.length) (h : ∀ (i : Nat) c d, cs[i]? = some c → ds[i]? = some d → VTo D H c d) : VTo D H (.agg cs) (.agg ds)
  | tup (cs ds : List AV) (hl : cs.length = ds.length) (h : ∀ (i : Nat) c d, cs[i]? = some c → ds[i]? = some d → VTo D H c d) : VTo D H (.tup cs) (.tup ds)
  | rsc (dd : List AV) (i sz m n : Nat) (e : TypeId) (css : List (List AV)) (dss : List (List AV)) (hD : D i = true) (hi : H.get i = some (.vec e sz css)) (hm : m = css.length) (hn : n ≤ m) (hd : dss.length = n) (hds : ∀ ds ∈ dss, ds.length = sz) (hno : QL noQ dss)
      (h : ∀ k (j : Nat) c d, k < n → (css.getD k [])[j]? = some c → (dss.getD k [])[j]? = some d → VTo D H c d) : VTo D H (.rs i m sz n) (.sl false sz dss dd)
  | pt (i k j : Nat) (t : TypeId) (cs ds : List AV) (hD : D i = true) (hi : H.get i = some (.var t cs)) (hl : (cs.drop j).length = ds.length) (hno : allL noQ ds = true) (h : ∀ (q : Nat) c d, (cs.drop j)[q]? = some c → ds[q]? = some d → VTo D H c d) : VTo D H (.pt i 0 k j) (.ip ds)

theorem VTo.sound {D : Nat → Bool} {H : Hp} {w : NW} (hw : RelW w H) {a a' : AV} (h : VTo D H a a') : ∀ {v : Value}, RelV w a v → RelV (w.freeS D) a' v := by
  induction h with
  | same a h => intro v hv; exact hv.keep (keep_freeS w D) h
  | drop a => intro v hv; exact .any v
  | nil sz d => intro v hv; have := raw_inv hv; subst this; exact .sl0 _ _ _ _ (fun e => by cases e)
  | lit x sz css d d' =>
    intro v hv
    have hv' := hv.keep (keep_freeS w D) (by simp only [AV.all])
    cases hv' with
    | sl0 _ _ A c _ => exact .sl0 _ _ _ _ (fun e => by cases e)
    | sl _ _ _ a c vs hn hc hx hsz hb hH hcell hr => exact .sl _ _ _ a c vs hn hc (fun e => by cases e) hsz hb hH hcell hr
  | agg cs ds hl _ ih =>
    intro v hv
    cases hv with
    | agg _ vs hl' hr =>
      refine .agg ds vs (by omega) fun i d v hd hv => ?_
      have hi : i < cs.length := by rw [hl]; exact (List.getElem?_eq_some_iff.1 hd).1
      have hc : cs[i]? = some cs[i] := List.getElem?_eq_getElem hi
      exact ih i _ d hc hd (hr i _ v hc hv)
  | tup cs ds hl _ ih =>
    intro v hv
    cases hv with
    | tup _ vs hl' hr =>
      refine .tup ds vs (by omega) fun i d v hd hv => ?_
      have hi : i < cs.length := by rw [hl]; exact (List.getElem?_eq_some_iff.1 hd).1
      have hc : cs[i]? = some cs[i] := List.getElem?_eq_getElem hi
      exact ih i _ d hc hd (hr i _ v hc hv)
  | rsc dd i sz m n e css dss hD hi hm hn hd hds hno _ ih =>
    intro v hv
    subst hm
    cases hv with
    | rs0 _ _ _ A hnm =>
      have : dss = [] := List.length_eq_zero_iff.1 (by omega)
      rw [this]; exact .sl0 _ _ _ _ (fun h => by cases h)
    | rs _ _ _ _ b t c hnm hc hle hs0 =>
      by_cases h0 : n = 0
      · have : dss = [] := List.length_eq_zero_iff.1 (by omega)
        rw [this, h0]; exact .sl0 _ _ _ _ (fun h => by cases h)
      · have hsz0 : 0 < sz := hs0
        have := RelV.sl (w := w.freeS D) (d := dd) false sz dss ⟨b, 0, none⟩ c (fun k => (w.cell? ⟨b, k, none⟩).getD undef) (by omega) (by omega) (fun h => by cases h) hds (hw.lt hnm) (fun h => h.2 i _ t sz hD hnm) (fun k j hk hj => by
          obtain ⟨_, _, _, v, h1, h2⟩ := row_cell hw hi hnm (k := k) (j := j) (by omega) hj
          show w.cell? _ = _
          rw [add_plain, Nat.zero_add, h1]; rfl) (fun k j u hk hu => by
          have hj : j < sz := by have := (List.getElem?_eq_some_iff.1 hu).1; rwa [getD_len hds hk] at this
          obtain ⟨_, hall, _, v, h1, h2⟩ := row_cell hw hi hnm (k := k) (j := j) (by omega) hj
          have hlc := getD_len hall (show k < css.length by omega)
          have hc : (css.getD k [])[j]? = some ((css.getD k [])[j]'(by omega)) := List.getElem?_eq_getElem (by omega)
          rw [h1]
          have hmem : dss.getD k [] ∈ dss := by
            have : dss.getD k [] = dss[k] := by simp [hk]
            rw [this]; exact List.getElem_mem _
          exact (ih k j _ u (by omega) hc hu (h2 _ hc)).strip (allL_get (hno _ hmem) hu))
        rw [hd] at this
        exact this
  | pt i k j t cs ds hD hi hl hno _ ih =>
    intro v hv
    cases hv with
    | pt _ _ _ _ b t' s hnm =>
      obtain ⟨hok, z, hz, hrow⟩ := hw.rows i _ hi
      have : z = .at b t' s := by have hz : w.nm i 0 = some z := hz; rw [hnm] at hz; cases hz; rfl
      subst this
      obtain ⟨rfl, cur, hh, hs, hle, hr⟩ := hrow
      have hs0 : (Row.var t cs).stride = 0 := rfl
      have hle : cs.length ≤ t' := hle
      have e0 : k * (Row.var t cs).stride + j = j := by rw [hs0]; omega
      rw [e0]
      refine .ip ds ⟨b, j, none⟩ (fun q => cur.getD (j + q) undef) (hw.lt hnm) (fun h => h.2 i 0 _ _ hD hnm) (fun q hq => ?_) (fun q u hu => ?_)
      · show w.cell? _ = _
        simp only [List.length_drop] at hl
        have : j + q < cur.size := by omega
        rw [add_plain, cell_of b _ cur _ (0, 0) hh]; simp [this]
      · have hql : q < (cs.drop j).length := by rw [hl]; exact (List.getElem?_eq_some_iff.1 hu).1
        have hc : (cs.drop j)[q]? = some (cs.drop j)[q] := List.getElem?_eq_getElem hql
        simp only [List.length_drop] at hql
        have : j + q < cur.size := by omega
        refine (ih q _ u hc hu (hr (j + q) _ _ (by rw [← List.getElem?_drop]; exact hc) ?_)).strip (allL_get hno hu)
        simp [this]

theorem VTo.rs {D : Nat → Bool} {H : Hp} (dd : List AV) (i sz n : Nat) (e : TypeId) (css : List (List AV)) (dss : List (List AV)) (hD : D i = true) (hi : H.get i = some (.vec e sz css)) (hn : n = css.length) (hd : dss.length = css.length) (hds : ∀ ds ∈ dss, ds.length = sz) (hno : QL noQ dss)
    (h : ∀ k (j : Nat) c d, k < css.length → (css.getD k [])[j]? = some c → (dss.getD k [])[j]? = some d → VTo D H c d) : VTo D H (.rs i n sz n) (.sl false sz dss dd) :=
  .rsc dd i sz n n e css dss hD hi hn (Nat.le_refl _) (by omega) hds hno fun k j c d hk => h k j c d (by omega)
theorem vto_list {D : Nat → Bool} {H : Hp} {cs ds : List AV} : (∀ p ∈ cs.zip ds, VTo D H p.1 p.2) → ∀ (i : Nat) c d, cs[i]? = some c → ds[i]? = some d → VTo D H c d := fun h i c d hc hd =>
  h (c, d) (List.mem_of_getElem? (i := i) (by rw [List.getElem?_zip_eq_some]; exact ⟨hc, hd⟩))
/-- A row of Lean data, read only. -/
theorem VTo.row {D : Nat → Bool} {H : Hp} {dd : List AV} {i sz n : Nat} {e : TypeId} {α : Type} {enc : α → List AV} [he : EncOK enc sz] (l : List α) (hD : D i = true) (hi : H.get i = some (.vec e sz (l.map enc))) (hn : n = l.length) : VTo D H (.rs i n sz n) (.sl false sz (l.map enc) dd) :=
  .rs dd i sz n e _ _ hD hi (by simpa using hn) rfl (fun ds hds => by obtain ⟨x, _, rfl⟩ := List.mem_map.1 hds; exact he.len x) (ql_map l) fun k j c d hk h1 h2 => by
    rw [h1] at h2; cases h2
    have hk' : k < l.length := by simpa using hk
    have e1 : (l.map enc).getD k [] = enc l[k] := by simp [hk']
    rw [e1] at h1
    exact .same c (all_mono (fun _ h => by cases h) _ (allL_get (he.free _) h1))
theorem VTo.rowC {D : Nat → Bool} {H : Hp} {dd : List AV} {i sz n : Nat} {e : TypeId} {css : List (List AV)} (hD : D i = true) (hi : H.get i = some (.vec e sz css)) (hn : n = css.length) (hs : ∀ cs ∈ css, cs.length = sz) (hq : QL noQ css) : VTo D H (.rs i n sz n) (.sl false sz css dd) :=
  .rs dd i sz n e _ _ hD hi hn rfl hs hq fun k j c d hk h1 h2 => by
    rw [h1] at h2; cases h2
    have hm : css.getD k [] ∈ css := by
      have : css.getD k [] = css[k] := by simp [hk]
      rw [this]; exact List.getElem_mem _
    exact .same c (all_mono (fun _ h => by cases h) _ (allL_get (hq _ hm) h1))

/-- A result that is from then on read only; things that are let go of. -/
theorem RLe.free {r r' : AV} {H : Hp} (D : Nat → Bool) (hB : H.B.all (notQ D) = true) (hl : stay D H.l) (hv : VTo D H r r') : RLe r H r' ⟨H.B, ldelS D H.l⟩ := fun w v h1 h2 => by
  obtain ⟨a, b⟩ := own_freeS h1 hB hl
  exact ⟨w.freeS D, rfl, a, hv.sound h1 h2, b⟩
def VToL (D : Nat → Bool) (H : Hp) : List AV → List AV → Prop
  | [], [] => True
  | a :: l, b :: m => VTo D H a b ∧ VToL D H l m
  | _, _ => False
theorem VToL.get {D : Nat → Bool} {H : Hp} : ∀ {l m : List AV}, VToL D H l m → l.length = m.length ∧ ∀ (i : Nat) a b, l[i]? = some a → m[i]? = some b → VTo D H a b
  | [], [], _ => ⟨rfl, fun i a b h => by simp at h⟩
  | x :: l, y :: m, h => by
    have ih := VToL.get h.2
    refine ⟨by simp [ih.1], fun i a b ha hb => ?_⟩
    cases i with
    | zero => simp at ha hb; subst ha hb; exact h.1
    | succ i => exact ih.2 i a b (by simpa using ha) (by simpa using hb)
theorem VToL.agg {D : Nat → Bool} {H : Hp} {cs ds : List AV} (h : VToL D H cs ds) : VTo D H (.agg cs) (.agg ds) := .agg cs ds h.get.1 h.get.2
theorem VToL.tup {D : Nat → Bool} {H : Hp} {cs ds : List AV} (h : VToL D H cs ds) : VTo D H (.tup cs) (.tup ds) := .tup cs ds h.get.1 h.get.2
theorem VToL.pt {D : Nat → Bool} {H : Hp} {i k j : Nat} {t : TypeId} {cs ds : List AV} (hD : D i = true) (hi : H.get i = some (.var t cs)) (hno : allL noQ ds = true) (h : VToL D H (cs.drop j) ds) : VTo D H (.pt i 0 k j) (.ip ds) := .pt i k j t cs ds hD hi h.get.1 hno h.get.2
theorem FLe.free {F F' : List AV} {H : Hp} (D : Nat → Bool) (hB : H.B.all (notQ D) = true) (hl : stay D H.l) (hv : VToL D H F F') : FLe F H F' ⟨H.B, ldelS D H.l⟩ := fun w tm h1 h2 => by
  obtain ⟨a, b⟩ := own_freeS h1 hB hl
  obtain ⟨hl', hg⟩ := hv.get
  refine ⟨w.freeS D, rfl, a, ⟨by rw [← hl']; exact h2.1, fun i c v hc hv => ?_⟩, b⟩
  have hi : i < F.length := by rw [hl']; exact (List.getElem?_eq_some_iff.1 hc).1
  exact (hg i F[i] c (List.getElem?_eq_getElem hi) hc).sound h1 (h2.2 i _ v (List.getElem?_eq_getElem hi) hv)

-- what is lent: a function that is handed nothing of one's own but to read

mutual
/-- A value that lies nowhere. -/
def AV.flat : AV → Bool
  | .raw _ => true
  | .any => true
  | .agg cs => flatL cs
  | .tup cs => flatL cs
  | .gd _ v => v.flat
  | _ => false
def flatL : List AV → Bool
  | [] => true
  | a :: l => a.flat && flatL l
end
theorem flatL_get : ∀ {l : List AV}, flatL l = true → ∀ {i : Nat} {a : AV}, l[i]? = some a → a.flat = true
  | [], _, i, a, h => by simp at h
  | x :: l, hl, i, a, h => by
    simp only [flatL, Bool.and_eq_true] at hl
    cases i with
    | zero => simp at h; subst h; exact hl.1
    | succ i => exact flatL_get hl.2 (by simpa using h)
theorem RelV.flat {w : NW} {a : AV} {v : Value} (h : RelV w a v) : ∀ {w' : NW}, a.flat = true → RelV w' a v := by
  induction h with
  | raw v => intro w' _; exact .raw v
  | any v => intro w' _; exact .any v
  | agg cs vs hl _ ih => intro w' ha; simp only [AV.flat] at ha; exact .agg cs vs hl fun i a v h1 h2 => ih i a v h1 h2 (flatL_get ha h1)
  | tup cs vs hl _ ih => intro w' ha; simp only [AV.flat] at ha; exact .tup cs vs hl fun i a v h1 h2 => ih i a v h1 h2 (flatL_get ha h1)
  | gd p a v _ hu ih => intro w' ha; exact .gd p a v (fun hp => ih hp (by simpa only [AV.flat] using ha)) hu
  | sl0 => intro w' ha; simp only [AV.flat] at ha; cases ha
  | sl => intro w' ha; simp only [AV.flat] at ha; cases ha
  | ip => intro w' ha; simp only [AV.flat] at ha; cases ha
  | clo => intro w' ha; simp only [AV.flat] at ha; cases ha
  | pt => intro w' ha; simp only [AV.flat] at ha; cases ha
  | rs0 => intro w' ha; simp only [AV.flat] at ha; cases ha
  | rs => intro w' ha; simp only [AV.flat] at ha; cases ha
  | rv0 => intro w' ha; simp only [AV.flat] at ha; cases ha
  | rv => intro w' ha; simp only [AV.flat] at ha; cases ha
theorem hcall_lend {P : Program} {f : FuncId} {args args' : List AV} {H : Hp} {K : AV → Hp → Prop} {r : AV} (hc : PCall P f args' r) (hv : VToL (fun _ => true) H args args') (hr : r.flat = true) (hk : K r H) : HCalls P f args H K := fun w vs h1 h2 => by
  obtain ⟨hl', hg⟩ := hv.get
  have hw1 : RelW (w.freeS fun _ => true) (entry []) := {
    rows := fun i r h => by cases h
    dom := fun i m z h => by cases h
    inj := fun i m j n b t s t' s' h _ => by cases h
    own := fun i m b t s h => by cases h
    fin := fun b hb => h1.fin b hb.1
    glob := h1.glob.keep (keep_freeS w fun _ => true) }
  refine (hc (w.freeS fun _ => true) vs hw1 ⟨by rw [← hl']; exact h2.1, fun i c v hc hv => ?_⟩).mono ?_
  · have hi : i < args.length := by rw [hl']; exact (List.getElem?_eq_some_iff.1 hc).1
    exact (hg i args[i] c (List.getElem?_eq_getElem hi) hc).sound h1 (h2.2 i _ v (List.getElem?_eq_getElem hi) hv)
  · rintro e W ⟨v, r', H', w', rfl, rfl, ⟨rfl, _⟩, g1, g2, g3⟩
    have hheap : ∀ b, b < w.heap.size → w'.heap[b]? = w.heap[b]? := fun b hb => by
      classical
      by_cases hO : (w.freeS fun _ => true).O b
      · exact (g3.rest b hb hO fun i m t s h => by cases h).1
      · exact (g3.free b hb hO).1
    have ex : Ext w H (w.to w'.toWorld) H := {
      size := g3.size
      free := fun b hb hO => ⟨hheap b hb, hO⟩
      names := fun _ _ _ _ h => h
      os := g3.os, tape := g3.tape, output := g3.output
      rest := fun b hb hO hno => ⟨hheap b hb, hO, hno⟩
      base := rfl }
    refine ⟨v, r', H, w.to w'.toWorld, rfl, rfl, hk, { rows := fun i s hi => ?_, dom := h1.dom, inj := h1.inj, own := h1.own, fin := fun b hb => Nat.lt_of_lt_of_le (h1.fin b hb) g3.size, glob := h1.glob.keep ex.toKeep }, g2.flat hr, ex⟩
    obtain ⟨e1, z, e2, e3⟩ := h1.rows i s hi
    refine ⟨e1, z, e2, e3.ext ex fun b t s e => ?_⟩
    subst e
    exact hheap b (h1.lt e2)

-- a slot that holds nothing yet, as a row of one's own without elements

/-- Nothing, as a row of one's own. -/
theorem FLe.nil {F : List AV} {H : Hp} (i slot : Nat) (e : TypeId) {sz : Nat} (hi : H.get i = none) (h0 : 0 < sz) (hs : F[slot]? = some (.raw (.slice none 0 0)) ∨ ∃ x s d, F[slot]? = some (.sl true s x d) ∧ x = []) : FLe F H (F.set slot (.rs i 0 sz 0)) (H.put i (.vec e sz [])) := fun w tm h1 h2 => by
  obtain ⟨a, b⟩ := own_nil h1 hi e h0
  refine ⟨w.name i 0 .nil, rfl, a, ⟨by rw [List.length_set]; exact h2.1, fun k c v hc hv => ?_⟩, b.toB⟩
  rw [List.getElem?_set] at hc
  by_cases hk : slot = k
  · subst hk
    rw [if_pos rfl] at hc
    split at hc
    · cases hc
      have hv' : ∃ A, v = .slice A 0 0 := by
        rcases hs with hs | ⟨x, s, d, hs, rfl⟩
        · exact ⟨none, by have := h2.2 slot _ v hs hv; cases this; rfl⟩
        · have := h2.2 slot _ v hs hv
          cases this with
          | sl0 _ _ A c hx => have := hx rfl; subst this; exact ⟨A, rfl⟩
          | sl _ _ _ _ _ _ hn => simp at hn
      obtain ⟨A, rfl⟩ := hv'
      exact .rs0 _ _ _ _ (NW.name_same _ _ _ _)
    · cases hc
  · rw [if_neg hk] at hc
    exact (h2.2 k c v hc hv).ext b
end Go.Gd

namespace Go.Gd
open Go

def nth {α : Type} [Inhabited α] (l : List α) (i : Nat) : α := l.getD i default
theorem nth_get {α : Type} [Inhabited α] {l : List α} {i : Nat} (h : i < l.length) : nth l i = l[i] := by simp [nth, h]
theorem take_nth {α : Type} [Inhabited α] {l : List α} {i : Nat} (h : i < l.length) : l.take (i + 1) = l.take i ++ [nth l i] := by rw [nth_get h, List.take_succ_eq_append_getElem h]
theorem nth_map {α β : Type} [Inhabited α] [Inhabited β] (f : α → β) {l : List α} {i : Nat} (h : i < l.length) : nth (l.map f) i = f (nth l i) := by rw [nth_get h, nth_get (by simpa using h)]; simp

/-- A slice that reads as the list l, each element's cells by 'enc'. -/
@[reducible] def slOf {α : Type} [Inhabited α] (enc : α → List AV) (sz : Nat) (l : List α) : AV := .sl false sz (l.map enc) (enc default)
@[go_sem] theorem athen_normal (next : List AV → Hp → Prop) (Q : Exit → List AV → Hp → Prop) (F : List AV) (H : Hp) : AThen next Q .normal F H = next F H := (rfl)
@[go_sem] theorem athen_ret (next : List AV → Hp → Prop) (Q : Exit → List AV → Hp → Prop) (F : List AV) (H : Hp) : AThen next Q .ret F H = Q .ret F H := (rfl)
@[go_sem] theorem athen_exit (next : List AV → Hp → Prop) (Q : Exit → List AV → Hp → Prop) (id : Nat) (F : List AV) (H : Hp) : AThen next Q (.exit id) F H = Q (.exit id) F H := (rfl)
@[go_sem] theorem ablock_normal (id : Nat) (Q : Exit → List AV → Hp → Prop) (F : List AV) (H : Hp) : ABlock id Q .normal F H = Q .normal F H := (rfl)
@[go_sem] theorem ablock_ret (id : Nat) (Q : Exit → List AV → Hp → Prop) (F : List AV) (H : Hp) : ABlock id Q .ret F H = Q .ret F H := (rfl)
@[go_sem] theorem ablock_exit (id : Nat) (Q : Exit → List AV → Hp → Prop) (F : List AV) (H : Hp) : ABlock id Q (.exit id) F H = Q .normal F H := by simp [ABlock]
theorem ablock_other {id id' : Nat} (Q : Exit → List AV → Hp → Prop) (F : List AV) (H : Hp) (h : id' ≠ id) : ABlock id Q (.exit id') F H = Q (.exit id') F H := by simp [ABlock, h]

def AP (K : AV → Hp → Prop) (_ : Dep K) : AV → Hp → Prop := K
def AP1 (K : AV → Prop) (_ : Dep K) : AV → Prop := K
@[go_sem] theorem ap_apply (K : AV → Hp → Prop) (d : Dep K) (r : AV) (H : Hp) : AP K d r H = K r H := (rfl)
@[go_sem] theorem ap1_apply (K : AV → Prop) (d : Dep K) (r : AV) : AP1 K d r = K r := (rfl)
theorem ap_intro {K : AV → Hp → Prop} {d : Dep K} {r : AV} {H : Hp} (h : K r H) : AP K d r H := h
def vGuard (o : Option Bool) (A : Bool → Prop) (_ : Dep A) : Prop := match o with
  | some b => A b
  | none => False
@[go_sem] theorem vGuard_some (b : Bool) (A : Bool → Prop) (d : Dep A) : vGuard (some b) A d = A b := (rfl)
def vIf (q : Bool) (A B : Prop) (_ : Dep A) (_ : Dep B) : Prop := if q = true then A else B
@[go_sem] theorem vIf_true (A B : Prop) (d : Dep A) (e : Dep B) : vIf true A B d e = A := (rfl)
@[go_sem] theorem vIf_false (A B : Prop) (d : Dep A) (e : Dep B) : vIf false A B d e = B := (rfl)
@[go_sem] theorem vcl_nil {P : Program} {ops : Array Oper} {K : List AV → Hp → Prop} (F : List AV) (H : Hp) : vcl P ops K [] F H = K F H := (rfl)
@[go_sem] theorem vcl_cons {P : Program} {ops : Array Oper} {K : List AV → Hp → Prop} (dst : Option Tmp) (op : Op) (ty : TypeId) (pos : String) (after : Array Edge) (rest : List Oper) (F : List AV) (H : Hp) :
    vcl P ops K (⟨dst, op, ty, pos, after, none⟩ :: rest) F H = vc P (evA F) H ty (AP (fun r H' => vcl P ops K rest (putA F dst r) H') .mk) op := (rfl)
@[go_sem] theorem vcl_guard {P : Program} {ops : Array Oper} {K : List AV → Hp → Prop} (dst : Option Tmp) (op : Op) (ty : TypeId) (pos : String) (after : Array Edge) (j : Nat) (want : Bool) (rest : List Oper) (F : List AV) (H : Hp) :
    vcl P ops K (⟨dst, op, ty, pos, after, some (j, want)⟩ :: rest) F H = vGuard (guardB ops F j want) (fun b => vIf (isCallV op || guardQuiet op) (vcG P F H b (AP1 (fun r => vcl P ops K rest (putA F dst r) H) .mk) op)
        ((b = true → vc P (evA F) H ty (AP (fun r H' => vcl P ops K rest (putA F dst r) H') .mk) op) ∧ (b = false → vcl P ops K rest (putA F dst .any) H)) .mk .mk) .mk := by
  unfold vGuard vIf
  rfl

@[go_sem] theorem toNat_add0 (a b : Nat) : ((a : Int) + (b : Int)).toNat = a + b := by omega
@[go_sem] theorem toNat_add1 (a : Nat) : ((a : Int) + 1).toNat = a + 1 := by omega
@[go_sem] theorem toNat_sub0 (a b : Nat) : ((a : Int) - (b : Int)).toNat = a - b := by omega
@[go_sem] theorem toNat_sub1 (a : Nat) : ((a : Int) - 1).toNat = a - 1 := by omega
@[go_sem] theorem toNat_add1sub (a b : Nat) : ((a : Int) + 1 - (b : Int)).toNat = a + 1 - b := by omega
@[go_sem] theorem cast_one_ : ((1 : Nat) : Int) = 1 := (rfl)
@[go_sem] theorem cast_zero_ : ((0 : Nat) : Int) = 0 := (rfl)
attribute [go_sem] Int.cast_ofNat_Int
def wrap64 (n : Int) : Int := IntKind.i64.wrap n
theorem wrap_in {n : Int} (h : -9223372036854775808 ≤ n ∧ n ≤ 9223372036854775807) : IntKind.i64.wrap n = n := by
  have h1 : (2 : Int) ^ 64 = 18446744073709551616 := by decide
  have h2 : (2 : Int) ^ (64 - 1) = 9223372036854775808 := by decide
  simp only [IntKind.wrap, IntKind.bits, IntKind.signed, Bool.true_and, h1, h2, decide_eq_true_eq]
  split <;> omega

theorem pcall_enter {P : Program} {f : FuncId} {fn : Func} {c : Code} {args : List AV} {r : AV} (hf : P.funcs[f]? = some fn) (hb : fn.body = some c) {F : List AV} (hF : args ++ List.replicate (fn.ntmps - args.length) .any = F)
    (h : AWP P c (ARet P fn fun r' l' => r' = r ∧ l' = []) F ⟨[], []⟩) : PCall P f args r := acalls_of hf hb (by rw [hF]; exact h)
theorem acalls_enter {P : Program} {f : FuncId} {fn : Func} {c : Code} {args : List AV} {l : List (Nat × Row)} {R : AV → List (Nat × Row) → Prop} (hf : P.funcs[f]? = some fn) (hb : fn.body = some c) {F : List AV} (hF : args ++ List.replicate (fn.ntmps - args.length) .any = F) {L : List Nat} (hL : ids l = L)
    (h : AWP P c (ARet P fn R) F ⟨L, l⟩) : ACalls P f args l R := acalls_of hf hb (by rw [hF]; subst hL; exact h)
section
variable {P : Program} {ev : Operand → AV} {H : Hp} {ty : TypeId} {K : AV → Hp → Prop}
@[go_sem] theorem vc_move (x : Operand) : vc P ev H ty K (.move x) = K (ev x) H := by simp [vc, quietOp, vq]
@[go_sem] theorem vc_assign (x : Operand) : vc P ev H ty K (.assign x) = K (ev x) H := by simp [vc, quietOp, vq]
@[go_sem] theorem vc_pick (c a b : Operand) : vc P ev H ty K (.pick c a b) = ((qPick (ev c) (ev a) (ev b)).1 ∧ K (qPick (ev c) (ev a) (ev b)).2 H) := by simp [vc, quietOp, vq]
@[go_sem] theorem vc_nilCheck (x : Operand) : vc P ev H ty K (.nilCheck x) = ((qNil (ev x)).1 ∧ K (qNil (ev x)).2 H) := by simp [vc, quietOp, vq]
@[go_sem] theorem vc_unOp (op : UnOp) (t : TypeId) (x : Operand) : vc P ev H ty K (.unOp op t x) = ((qUn op (ev x)).1 ∧ K (qUn op (ev x)).2 H) := by simp [vc, quietOp, vq]
@[go_sem] theorem vc_load (t : TypeId) (x : Operand) : vc P ev H ty K (.load t x) = ((qLoad P H t (ev x)).1 ∧ K (qLoad P H t (ev x)).2 H) := by simp [vc, quietOp, vq]
@[go_sem] theorem vc_fieldAddr (t : TypeId) (x : Operand) (f : Nat) : vc P ev H ty K (.fieldAddr t x f) = ((qFieldAddr P t (ev x) f).1 ∧ K (qFieldAddr P t (ev x) f).2 H) := by simp [vc, quietOp, vq]
@[go_sem] theorem vc_field (t : TypeId) (x : Operand) (f : Nat) : vc P ev H ty K (.field t x f) = ((qField P t (ev x) f).1 ∧ K (qField P t (ev x) f).2 H) := by simp [vc, quietOp, vq]
@[go_sem] theorem vc_indexAddr (t : TypeId) (x i : Operand) : vc P ev H ty K (.indexAddr t x i) = ((qIndexAddr P t (ev x) (ev i)).1 ∧ K (qIndexAddr P t (ev x) (ev i)).2 H) := by simp [vc, quietOp, vq]
@[go_sem] theorem vc_index (t : TypeId) (x i : Operand) : vc P ev H ty K (.index t x i) = ((qIndex P t (ev x) (ev i)).1 ∧ K (qIndex P t (ev x) (ev i)).2 H) := by simp [vc, quietOp, vq]
@[go_sem] theorem vc_extract (x : Operand) (i : Nat) : vc P ev H ty K (.extract x i) = ((qExtract (ev x) i).1 ∧ K (qExtract (ev x) i).2 H) := by simp [vc, quietOp, vq]
@[go_sem] theorem vc_slice (t : TypeId) (a : Operand) (lo hi mx : Option Operand) : vc P ev H ty K (.slice t a lo hi mx) = ((qSlice P t (ev a) (lo.map ev) (hi.map ev) (mx.map ev)).1 ∧ K (qSlice P t (ev a) (lo.map ev) (hi.map ev) (mx.map ev)).2 H) := by simp [vc, quietOp, vq]
@[go_sem] theorem vc_makeFunc (fn : Fn) (a b : Array Operand) : vc P ev H ty K (.makeFunc fn a b) = ((qFunc fn (a.toList.map ev) (b.toList.map ev)).1 ∧ K (qFunc fn (a.toList.map ev) (b.toList.map ev)).2 H) := by simp [vc, quietOp, vq]
@[go_sem] theorem vc_makeIface (t : TypeId) (x : Operand) : vc P ev H ty K (.makeInterface t x) = ((qIface P t (ev x)).1 ∧ K (qIface P t (ev x)).2 H) := by simp [vc, quietOp, vq]
@[go_sem] theorem vc_convert (s d : TypeId) (x : Operand) : vc P ev H ty K (.convert s d x) = ((qConv P s d (ev x)).1 ∧ K (qConv P s d (ev x)).2 H) := by simp [vc, quietOp, vq]
@[go_sem] theorem vc_build (t : TypeId) (ps : Array (Nat × Operand)) : vc P ev H ty K (.build t ps) = ((qBuild P t (ps.toList.map fun p => (p.1, ev p.2))).1 ∧ K (qBuild P t (ps.toList.map fun p => (p.1, ev p.2))).2 H) := by simp [vc, quietOp, vq]
@[go_sem] theorem vc_len (as : Array Operand) (ts : Array TypeId) : vc P ev H ty K (.call ⟨.builtin .len, as, ts⟩) = ((qBuiltin P .len ts.toList (as.toList.map ev)).1 ∧ K (qBuiltin P .len ts.toList (as.toList.map ev)).2 H) := by simp [vc, quietOp, vq]
@[go_sem] theorem vc_cap (as : Array Operand) (ts : Array TypeId) : vc P ev H ty K (.call ⟨.builtin .cap, as, ts⟩) = ((qBuiltin P .cap ts.toList (as.toList.map ev)).1 ∧ K (qBuiltin P .cap ts.toList (as.toList.map ev)).2 H) := by simp [vc, quietOp, vq]
@[go_sem] theorem vc_max (as : Array Operand) (ts : Array TypeId) : vc P ev H ty K (.call ⟨.builtin .max, as, ts⟩) = ((qBuiltin P .max ts.toList (as.toList.map ev)).1 ∧ K (qBuiltin P .max ts.toList (as.toList.map ev)).2 H) := by simp [vc, quietOp, vq]
@[go_sem] theorem vc_min (as : Array Operand) (ts : Array TypeId) : vc P ev H ty K (.call ⟨.builtin .min, as, ts⟩) = ((qBuiltin P .min ts.toList (as.toList.map ev)).1 ∧ K (qBuiltin P .min ts.toList (as.toList.map ev)).2 H) := by simp [vc, quietOp, vq]
@[go_sem] theorem vc_add (t : TypeId) (x y : Operand) (t' : TypeId) : vc P ev H ty K (.binOp .add t x y t') = ((qBin P .add t (ev x) (ev y)).1 ∧ K (qBin P .add t (ev x) (ev y)).2 H) := by simp [vc, quietOp, vq]
@[go_sem] theorem vc_sub (t : TypeId) (x y : Operand) (t' : TypeId) : vc P ev H ty K (.binOp .sub t x y t') = ((qBin P .sub t (ev x) (ev y)).1 ∧ K (qBin P .sub t (ev x) (ev y)).2 H) := by simp [vc, quietOp, vq]
@[go_sem] theorem vc_mul (t : TypeId) (x y : Operand) (t' : TypeId) : vc P ev H ty K (.binOp .mul t x y t') = ((qBin P .mul t (ev x) (ev y)).1 ∧ K (qBin P .mul t (ev x) (ev y)).2 H) := by simp [vc, quietOp, vq]
@[go_sem] theorem vc_quo (t : TypeId) (x y : Operand) (t' : TypeId) : vc P ev H ty K (.binOp .quo t x y t') = ((qBin P .quo t (ev x) (ev y)).1 ∧ K (qBin P .quo t (ev x) (ev y)).2 H) := by simp [vc, quietOp, vq]
@[go_sem] theorem vc_rem (t : TypeId) (x y : Operand) (t' : TypeId) : vc P ev H ty K (.binOp .rem t x y t') = ((qBin P .rem t (ev x) (ev y)).1 ∧ K (qBin P .rem t (ev x) (ev y)).2 H) := by simp [vc, quietOp, vq]
@[go_sem] theorem vc_and (t : TypeId) (x y : Operand) (t' : TypeId) : vc P ev H ty K (.binOp .and t x y t') = ((qBin P .and t (ev x) (ev y)).1 ∧ K (qBin P .and t (ev x) (ev y)).2 H) := by simp [vc, quietOp, vq]
@[go_sem] theorem vc_or (t : TypeId) (x y : Operand) (t' : TypeId) : vc P ev H ty K (.binOp .or t x y t') = ((qBin P .or t (ev x) (ev y)).1 ∧ K (qBin P .or t (ev x) (ev y)).2 H) := by simp [vc, quietOp, vq]
@[go_sem] theorem vc_xor (t : TypeId) (x y : Operand) (t' : TypeId) : vc P ev H ty K (.binOp .xor t x y t') = ((qBin P .xor t (ev x) (ev y)).1 ∧ K (qBin P .xor t (ev x) (ev y)).2 H) := by simp [vc, quietOp, vq]
@[go_sem] theorem vc_andNot (t : TypeId) (x y : Operand) (t' : TypeId) : vc P ev H ty K (.binOp .andNot t x y t') = ((qBin P .andNot t (ev x) (ev y)).1 ∧ K (qBin P .andNot t (ev x) (ev y)).2 H) := by simp [vc, quietOp, vq]
@[go_sem] theorem vc_shl (t : TypeId) (x y : Operand) (t' : TypeId) : vc P ev H ty K (.binOp .shl t x y t') = ((qBin P .shl t (ev x) (ev y)).1 ∧ K (qBin P .shl t (ev x) (ev y)).2 H) := by simp [vc, quietOp, vq]
@[go_sem] theorem vc_shr (t : TypeId) (x y : Operand) (t' : TypeId) : vc P ev H ty K (.binOp .shr t x y t') = ((qBin P .shr t (ev x) (ev y)).1 ∧ K (qBin P .shr t (ev x) (ev y)).2 H) := by simp [vc, quietOp, vq]
@[go_sem] theorem vc_lss (t : TypeId) (x y : Operand) (t' : TypeId) : vc P ev H ty K (.binOp .lss t x y t') = ((qBin P .lss t (ev x) (ev y)).1 ∧ K (qBin P .lss t (ev x) (ev y)).2 H) := by simp [vc, quietOp, vq]
@[go_sem] theorem vc_leq (t : TypeId) (x y : Operand) (t' : TypeId) : vc P ev H ty K (.binOp .leq t x y t') = ((qBin P .leq t (ev x) (ev y)).1 ∧ K (qBin P .leq t (ev x) (ev y)).2 H) := by simp [vc, quietOp, vq]
@[go_sem] theorem vc_gtr (t : TypeId) (x y : Operand) (t' : TypeId) : vc P ev H ty K (.binOp .gtr t x y t') = ((qBin P .gtr t (ev x) (ev y)).1 ∧ K (qBin P .gtr t (ev x) (ev y)).2 H) := by simp [vc, quietOp, vq]
@[go_sem] theorem vc_geq (t : TypeId) (x y : Operand) (t' : TypeId) : vc P ev H ty K (.binOp .geq t x y t') = ((qBin P .geq t (ev x) (ev y)).1 ∧ K (qBin P .geq t (ev x) (ev y)).2 H) := by simp [vc, quietOp, vq]
@[go_sem] theorem vc_eql (t : TypeId) (x y : Operand) (t' : TypeId) : vc P ev H ty K (.binOp .eql t x y t') = vNilEq P false t (ev x) (ev y) H K := (rfl)
@[go_sem] theorem vc_neq (t : TypeId) (x y : Operand) (t' : TypeId) : vc P ev H ty K (.binOp .neq t x y t') = vNilEq P true t (ev x) (ev y) H K := (rfl)
@[go_sem] theorem vc_box (t : TypeId) (x : Operand) : vc P ev H ty K (.box t x) = vBox H t (ev x) K := (rfl)
@[go_sem] theorem vc_alloc (t : TypeId) : vc P ev H ty K (.alloc t) = vAlloc P H t K := (rfl)
@[go_sem] theorem vc_store (t : TypeId) (a x : Operand) : vc P ev H ty K (.store t a x) = vStore P H t (ev a) (ev x) K := (rfl)
@[go_sem] theorem vc_buildSlice (t : TypeId) (n : Nat) (ps : Array (Nat × Operand)) : vc P ev H ty K (.buildSlice t n ps) = vLit P H t n (ps.toList.map fun p => (p.1, ev p.2)) K := (rfl)
@[go_sem] theorem vc_call (f : Operand) (as : Array Operand) (ts : Array TypeId) : vc P ev H ty K (.call ⟨.value f, as, ts⟩) = vCall P (ev f) (as.toList.map ev) H K := (rfl)
@[go_sem] theorem vc_append (t : TypeId) (a x : Operand) : vc P ev H ty K (.call ⟨.builtin .append, #[a, x], #[t, t]⟩) = AppendTo P t t (ev a) (ev x) H K := by simp [vc]
@[go_sem] theorem vc_appendTo (t t' : TypeId) (a x : Operand) : vc P ev H ty K (.call ⟨.builtin .append, #[a, x], #[t, t']⟩) = AppendTo P t t' (ev a) (ev x) H K := by simp [vc]
@[go_sem] theorem vc_copy (as : Array Operand) (ts : Array TypeId) : vc P ev H ty K (.call ⟨.builtin .copy, as, ts⟩) = BuiltinVC P .copy ts.toList (as.toList.map ev) H K := by simp [vc, quietOp]
@[go_sem] theorem vc_clear (as : Array Operand) (ts : Array TypeId) : vc P ev H ty K (.call ⟨.builtin .clear, as, ts⟩) = BuiltinVC P .clear ts.toList (as.toList.map ev) H K := by simp [vc, quietOp]
end
section
variable {P : Program} {F : List AV} {H : Hp} {g : Bool} {K : AV → Prop}
@[go_sem] theorem vg_pick (c a b : Operand) : vcG P F H g K (.pick c a b) = ((g = true → (unG (evA F c)).1 = true ∧ (qPick (evG F c) (evA F a) (evA F b)).1) ∧ K (.gd g (qPick (evG F c) (evA F a) (evA F b)).2)) := (rfl)
@[go_sem] theorem vg_nilCheck (x : Operand) : vcG P F H g K (.nilCheck x) = ((g = true → okG F (.nilCheck x) = true ∧ (qNil (evG F x)).1) ∧ K (.gd g (qNil (evG F x)).2)) := by simp [vcG, guardQuiet, quietOp, vq]
@[go_sem] theorem vg_unOp (op : UnOp) (t : TypeId) (x : Operand) : vcG P F H g K (.unOp op t x) = ((g = true → okG F (.unOp op t x) = true ∧ (qUn op (evG F x)).1) ∧ K (.gd g (qUn op (evG F x)).2)) := by simp [vcG, guardQuiet, quietOp, vq]
@[go_sem] theorem vg_load (t : TypeId) (x : Operand) : vcG P F H g K (.load t x) = ((g = true → okG F (.load t x) = true ∧ (qLoad P H t (evG F x)).1) ∧ K (.gd g (qLoad P H t (evG F x)).2)) := by simp [vcG, guardQuiet, quietOp, vq]
@[go_sem] theorem vg_fieldAddr (t : TypeId) (x : Operand) (f : Nat) : vcG P F H g K (.fieldAddr t x f) = ((g = true → okG F (.fieldAddr t x f) = true ∧ (qFieldAddr P t (evG F x) f).1) ∧ K (.gd g (qFieldAddr P t (evG F x) f).2)) := by simp [vcG, guardQuiet, quietOp, vq]
@[go_sem] theorem vg_field (t : TypeId) (x : Operand) (f : Nat) : vcG P F H g K (.field t x f) = ((g = true → okG F (.field t x f) = true ∧ (qField P t (evG F x) f).1) ∧ K (.gd g (qField P t (evG F x) f).2)) := by simp [vcG, guardQuiet, quietOp, vq]
@[go_sem] theorem vg_indexAddr (t : TypeId) (x i : Operand) : vcG P F H g K (.indexAddr t x i) = ((g = true → okG F (.indexAddr t x i) = true ∧ (qIndexAddr P t (evG F x) (evG F i)).1) ∧ K (.gd g (qIndexAddr P t (evG F x) (evG F i)).2)) := by simp [vcG, guardQuiet, quietOp, vq]
@[go_sem] theorem vg_index (t : TypeId) (x i : Operand) : vcG P F H g K (.index t x i) = ((g = true → okG F (.index t x i) = true ∧ (qIndex P t (evG F x) (evG F i)).1) ∧ K (.gd g (qIndex P t (evG F x) (evG F i)).2)) := by simp [vcG, guardQuiet, quietOp, vq]
@[go_sem] theorem vg_extract (x : Operand) (i : Nat) : vcG P F H g K (.extract x i) = ((g = true → okG F (.extract x i) = true ∧ (qExtract (evG F x) i).1) ∧ K (.gd g (qExtract (evG F x) i).2)) := by simp [vcG, guardQuiet, quietOp, vq]
@[go_sem] theorem vg_slice (t : TypeId) (a : Operand) (lo hi mx : Option Operand) : vcG P F H g K (.slice t a lo hi mx) = ((g = true → okG F (.slice t a lo hi mx) = true ∧ (qSlice P t (evG F a) (lo.map (evG F)) (hi.map (evG F)) (mx.map (evG F))).1) ∧ K (.gd g (qSlice P t (evG F a) (lo.map (evG F)) (hi.map (evG F)) (mx.map (evG F))).2)) := by simp [vcG, guardQuiet, quietOp, vq]
@[go_sem] theorem vg_makeFunc (fn : Fn) (a b : Array Operand) : vcG P F H g K (.makeFunc fn a b) = ((g = true → okG F (.makeFunc fn a b) = true ∧ (qFunc fn (a.toList.map (evG F)) (b.toList.map (evG F))).1) ∧ K (.gd g (qFunc fn (a.toList.map (evG F)) (b.toList.map (evG F))).2)) := by simp [vcG, guardQuiet, quietOp, vq]
@[go_sem] theorem vg_makeIface (t : TypeId) (x : Operand) : vcG P F H g K (.makeInterface t x) = ((g = true → okG F (.makeInterface t x) = true ∧ (qIface P t (evG F x)).1) ∧ K (.gd g (qIface P t (evG F x)).2)) := by simp [vcG, guardQuiet, quietOp, vq]
@[go_sem] theorem vg_convert (s d : TypeId) (x : Operand) : vcG P F H g K (.convert s d x) = ((g = true → okG F (.convert s d x) = true ∧ (qConv P s d (evG F x)).1) ∧ K (.gd g (qConv P s d (evG F x)).2)) := by simp [vcG, guardQuiet, quietOp, vq]
@[go_sem] theorem vg_build (t : TypeId) (ps : Array (Nat × Operand)) : vcG P F H g K (.build t ps) = ((g = true → okG F (.build t ps) = true ∧ (qBuild P t (ps.toList.map fun p => (p.1, evG F p.2))).1) ∧ K (.gd g (qBuild P t (ps.toList.map fun p => (p.1, evG F p.2))).2)) := by simp [vcG, guardQuiet, quietOp, vq]
@[go_sem] theorem vg_len (as : Array Operand) (ts : Array TypeId) : vcG P F H g K (.call ⟨.builtin .len, as, ts⟩) = ((g = true → okG F (.call ⟨.builtin .len, as, ts⟩) = true ∧ (qBuiltin P .len ts.toList (as.toList.map (evG F))).1) ∧ K (.gd g (qBuiltin P .len ts.toList (as.toList.map (evG F))).2)) := by simp [vcG, guardQuiet, quietOp, vq]
@[go_sem] theorem vg_cap (as : Array Operand) (ts : Array TypeId) : vcG P F H g K (.call ⟨.builtin .cap, as, ts⟩) = ((g = true → okG F (.call ⟨.builtin .cap, as, ts⟩) = true ∧ (qBuiltin P .cap ts.toList (as.toList.map (evG F))).1) ∧ K (.gd g (qBuiltin P .cap ts.toList (as.toList.map (evG F))).2)) := by simp [vcG, guardQuiet, quietOp, vq]
@[go_sem] theorem vg_max (as : Array Operand) (ts : Array TypeId) : vcG P F H g K (.call ⟨.builtin .max, as, ts⟩) = ((g = true → okG F (.call ⟨.builtin .max, as, ts⟩) = true ∧ (qBuiltin P .max ts.toList (as.toList.map (evG F))).1) ∧ K (.gd g (qBuiltin P .max ts.toList (as.toList.map (evG F))).2)) := by simp [vcG, guardQuiet, quietOp, vq]
@[go_sem] theorem vg_min (as : Array Operand) (ts : Array TypeId) : vcG P F H g K (.call ⟨.builtin .min, as, ts⟩) = ((g = true → okG F (.call ⟨.builtin .min, as, ts⟩) = true ∧ (qBuiltin P .min ts.toList (as.toList.map (evG F))).1) ∧ K (.gd g (qBuiltin P .min ts.toList (as.toList.map (evG F))).2)) := by simp [vcG, guardQuiet, quietOp, vq]
@[go_sem] theorem vg_add (t : TypeId) (x y : Operand) (t' : TypeId) : vcG P F H g K (.binOp .add t x y t') = ((g = true → okG F (.binOp .add t x y t') = true ∧ (qBin P .add t (evG F x) (evG F y)).1) ∧ K (.gd g (qBin P .add t (evG F x) (evG F y)).2)) := by simp [vcG, guardQuiet, quietOp, vq]
@[go_sem] theorem vg_sub (t : TypeId) (x y : Operand) (t' : TypeId) : vcG P F H g K (.binOp .sub t x y t') = ((g = true → okG F (.binOp .sub t x y t') = true ∧ (qBin P .sub t (evG F x) (evG F y)).1) ∧ K (.gd g (qBin P .sub t (evG F x) (evG F y)).2)) := by simp [vcG, guardQuiet, quietOp, vq]
@[go_sem] theorem vg_mul (t : TypeId) (x y : Operand) (t' : TypeId) : vcG P F H g K (.binOp .mul t x y t') = ((g = true → okG F (.binOp .mul t x y t') = true ∧ (qBin P .mul t (evG F x) (evG F y)).1) ∧ K (.gd g (qBin P .mul t (evG F x) (evG F y)).2)) := by simp [vcG, guardQuiet, quietOp, vq]
@[go_sem] theorem vg_quo (t : TypeId) (x y : Operand) (t' : TypeId) : vcG P F H g K (.binOp .quo t x y t') = ((g = true → okG F (.binOp .quo t x y t') = true ∧ (qBin P .quo t (evG F x) (evG F y)).1) ∧ K (.gd g (qBin P .quo t (evG F x) (evG F y)).2)) := by simp [vcG, guardQuiet, quietOp, vq]
@[go_sem] theorem vg_rem (t : TypeId) (x y : Operand) (t' : TypeId) : vcG P F H g K (.binOp .rem t x y t') = ((g = true → okG F (.binOp .rem t x y t') = true ∧ (qBin P .rem t (evG F x) (evG F y)).1) ∧ K (.gd g (qBin P .rem t (evG F x) (evG F y)).2)) := by simp [vcG, guardQuiet, quietOp, vq]
@[go_sem] theorem vg_and (t : TypeId) (x y : Operand) (t' : TypeId) : vcG P F H g K (.binOp .and t x y t') = ((g = true → okG F (.binOp .and t x y t') = true ∧ (qBin P .and t (evG F x) (evG F y)).1) ∧ K (.gd g (qBin P .and t (evG F x) (evG F y)).2)) := by simp [vcG, guardQuiet, quietOp, vq]
@[go_sem] theorem vg_or (t : TypeId) (x y : Operand) (t' : TypeId) : vcG P F H g K (.binOp .or t x y t') = ((g = true → okG F (.binOp .or t x y t') = true ∧ (qBin P .or t (evG F x) (evG F y)).1) ∧ K (.gd g (qBin P .or t (evG F x) (evG F y)).2)) := by simp [vcG, guardQuiet, quietOp, vq]
@[go_sem] theorem vg_xor (t : TypeId) (x y : Operand) (t' : TypeId) : vcG P F H g K (.binOp .xor t x y t') = ((g = true → okG F (.binOp .xor t x y t') = true ∧ (qBin P .xor t (evG F x) (evG F y)).1) ∧ K (.gd g (qBin P .xor t (evG F x) (evG F y)).2)) := by simp [vcG, guardQuiet, quietOp, vq]
@[go_sem] theorem vg_andNot (t : TypeId) (x y : Operand) (t' : TypeId) : vcG P F H g K (.binOp .andNot t x y t') = ((g = true → okG F (.binOp .andNot t x y t') = true ∧ (qBin P .andNot t (evG F x) (evG F y)).1) ∧ K (.gd g (qBin P .andNot t (evG F x) (evG F y)).2)) := by simp [vcG, guardQuiet, quietOp, vq]
@[go_sem] theorem vg_shl (t : TypeId) (x y : Operand) (t' : TypeId) : vcG P F H g K (.binOp .shl t x y t') = ((g = true → okG F (.binOp .shl t x y t') = true ∧ (qBin P .shl t (evG F x) (evG F y)).1) ∧ K (.gd g (qBin P .shl t (evG F x) (evG F y)).2)) := by simp [vcG, guardQuiet, quietOp, vq]
@[go_sem] theorem vg_shr (t : TypeId) (x y : Operand) (t' : TypeId) : vcG P F H g K (.binOp .shr t x y t') = ((g = true → okG F (.binOp .shr t x y t') = true ∧ (qBin P .shr t (evG F x) (evG F y)).1) ∧ K (.gd g (qBin P .shr t (evG F x) (evG F y)).2)) := by simp [vcG, guardQuiet, quietOp, vq]
@[go_sem] theorem vg_lss (t : TypeId) (x y : Operand) (t' : TypeId) : vcG P F H g K (.binOp .lss t x y t') = ((g = true → okG F (.binOp .lss t x y t') = true ∧ (qBin P .lss t (evG F x) (evG F y)).1) ∧ K (.gd g (qBin P .lss t (evG F x) (evG F y)).2)) := by simp [vcG, guardQuiet, quietOp, vq]
@[go_sem] theorem vg_leq (t : TypeId) (x y : Operand) (t' : TypeId) : vcG P F H g K (.binOp .leq t x y t') = ((g = true → okG F (.binOp .leq t x y t') = true ∧ (qBin P .leq t (evG F x) (evG F y)).1) ∧ K (.gd g (qBin P .leq t (evG F x) (evG F y)).2)) := by simp [vcG, guardQuiet, quietOp, vq]
@[go_sem] theorem vg_gtr (t : TypeId) (x y : Operand) (t' : TypeId) : vcG P F H g K (.binOp .gtr t x y t') = ((g = true → okG F (.binOp .gtr t x y t') = true ∧ (qBin P .gtr t (evG F x) (evG F y)).1) ∧ K (.gd g (qBin P .gtr t (evG F x) (evG F y)).2)) := by simp [vcG, guardQuiet, quietOp, vq]
@[go_sem] theorem vg_geq (t : TypeId) (x y : Operand) (t' : TypeId) : vcG P F H g K (.binOp .geq t x y t') = ((g = true → okG F (.binOp .geq t x y t') = true ∧ (qBin P .geq t (evG F x) (evG F y)).1) ∧ K (.gd g (qBin P .geq t (evG F x) (evG F y)).2)) := by simp [vcG, guardQuiet, quietOp, vq]
@[go_sem] theorem vg_move (x : Operand) : vcG P F H g K (.move x) = ((g = true → okG F (.move x) = true) ∧ K (.gd g (evG F x))) := by simp [vcG, guardQuiet, quietOp, vq]
@[go_sem] theorem vg_assign (x : Operand) : vcG P F H g K (.assign x) = ((g = true → okG F (.assign x) = true) ∧ K (.gd g (evG F x))) := by simp [vcG, guardQuiet, quietOp, vq]
@[go_sem] theorem vg_eql (t : TypeId) (x y : Operand) (t' : TypeId) : vcG P F H g K (.binOp .eql t x y t') = ((g = true → okG F (.binOp .eql t x y t') = true ∧ (qBin P .eql t (evG F x) (evG F y)).1) ∧ K (.gd g (qBin P .eql t (evG F x) (evG F y)).2)) := by simp [vcG, guardQuiet, vq]
@[go_sem] theorem vg_neq (t : TypeId) (x y : Operand) (t' : TypeId) : vcG P F H g K (.binOp .neq t x y t') = ((g = true → okG F (.binOp .neq t x y t') = true ∧ (qBin P .neq t (evG F x) (evG F y)).1) ∧ K (.gd g (qBin P .neq t (evG F x) (evG F y)).2)) := by simp [vcG, guardQuiet, vq]
@[go_sem] theorem vg_call (f : Operand) (as : Array Operand) (ts : Array TypeId) : vcG P F H g K (.call ⟨.value f, as, ts⟩) = ∃ r, (g = true → okG F (.call ⟨.value f, as, ts⟩) = true ∧ vCall P (evG F f) (as.toList.map (evG F)) H fun r' H' => r' = r ∧ H' = H) ∧ K (.gd g r) := (rfl)
@[go_sem] theorem evA_tmp (t : Tmp) : evA F (.tmp t) = F.getD t .any := (rfl)
@[go_sem] theorem evA_const (v : Value) : evA F (.const v) = .raw v := (rfl)
@[go_sem] theorem evA_global (b : Nat) : evA F (.global b) = .raw (.pointer (some ⟨b, 0, none⟩)) := (rfl)
@[go_sem] theorem evA_func (f : FuncId) : evA F (.func f) = .raw (.func (.func f) #[] #[]) := (rfl)
@[go_sem] theorem putA_some (d : Tmp) (a : AV) : putA F (some d) a = F.set d a := (rfl)
@[go_sem] theorem putA_none (a : AV) : putA F none a = F := (rfl)
end

@[go_sem] theorem qArr_some (len s : Nat) (i : Int) (f : Nat → AV) : qArr (some (len, s)) i f = (0 ≤ i ∧ i < len, f (i.toNat * s)) := (rfl)
attribute [go_sem] evG okG unG guardB isCallV guardQuiet quietOp qPick qNil qInt qStr qEqNe qBin qUn qLoad cellsAt qFieldAddr qField qPart qIndexAddr qIndex qExtract optInt qSlice rawsOf qFunc qIface qConv qLen qCap qMaxMin qBuiltin fillA qBuild vStore vNilEq vLit splice
attribute [go_sem] ones Op.operands Call.operands litOK
section
@[go_sem] theorem cells_agg (cs : List AV) : (AV.agg cs).cells = cs := (rfl)
@[go_sem] theorem cells_raw_agg (vs : Array Value) : (AV.raw (.agg vs)).cells = vs.toList.map .raw := (rfl)
@[go_sem] theorem cells_int (k : IntKind) (n : Int) : (AV.raw (.int k n)).cells = [.raw (.int k n)] := (rfl)
@[go_sem] theorem cells_bool (b : Bool) : (AV.raw (.bool b)).cells = [.raw (.bool b)] := (rfl)
@[go_sem] theorem cells_string (s : ByteArray) : (AV.raw (.string s)).cells = [.raw (.string s)] := (rfl)
@[go_sem] theorem cells_pointer (a : Option Addr) : (AV.raw (.pointer a)).cells = [.raw (.pointer a)] := (rfl)
@[go_sem] theorem cells_slice (a : Option Addr) (n c : Nat) : (AV.raw (.slice a n c)).cells = [.raw (.slice a n c)] := (rfl)
@[go_sem] theorem cells_map (r : Option Nat) : (AV.raw (.map r)).cells = [.raw (.map r)] := (rfl)
@[go_sem] theorem cells_func (f : Fn) (a b : Array Value) : (AV.raw (.func f a b)).cells = [.raw (.func f a b)] := (rfl)
@[go_sem] theorem cells_nilFunc : (AV.raw .nilFunc).cells = [.raw .nilFunc] := (rfl)
@[go_sem] theorem cells_iface (t : TypeId) (v : Value) : (AV.raw (.iface t v)).cells = [.raw (.iface t v)] := (rfl)
@[go_sem] theorem cells_nilIface : (AV.raw .nilIface).cells = [.raw .nilIface] := (rfl)
@[go_sem] theorem cells_sl (x : Bool) (sz : Nat) (css : List (List AV)) (d : List AV) : (AV.sl x sz css d).cells = [.sl x sz css d] := (rfl)
@[go_sem] theorem cells_pt (i m k j : Nat) : (AV.pt i m k j).cells = [.pt i m k j] := (rfl)
@[go_sem] theorem cells_rs (i m k j : Nat) : (AV.rs i m k j).cells = [.rs i m k j] := (rfl)
@[go_sem] theorem cells_rv (i m k j q : Nat) : (AV.rv i m k j q).cells = [.rv i m k j q] := (rfl)
@[go_sem] theorem cells_ip (cs : List AV) : (AV.ip cs).cells = [.ip cs] := (rfl)
@[go_sem] theorem one_int (k : IntKind) (n : Int) : (AV.raw (.int k n)).one = true := (rfl)
@[go_sem] theorem one_bool (b : Bool) : (AV.raw (.bool b)).one = true := (rfl)
@[go_sem] theorem one_string (s : ByteArray) : (AV.raw (.string s)).one = true := (rfl)
@[go_sem] theorem one_pointer (a : Option Addr) : (AV.raw (.pointer a)).one = true := (rfl)
@[go_sem] theorem one_slice (a : Option Addr) (n c : Nat) : (AV.raw (.slice a n c)).one = true := (rfl)
@[go_sem] theorem one_map (r : Option Nat) : (AV.raw (.map r)).one = true := (rfl)
@[go_sem] theorem one_func (f : Fn) (a b : Array Value) : (AV.raw (.func f a b)).one = true := (rfl)
@[go_sem] theorem one_nilFunc : (AV.raw .nilFunc).one = true := (rfl)
@[go_sem] theorem one_iface (t : TypeId) (v : Value) : (AV.raw (.iface t v)).one = true := (rfl)
@[go_sem] theorem one_nilIface : (AV.raw .nilIface).one = true := (rfl)
@[go_sem] theorem one_sl (x : Bool) (sz : Nat) (css : List (List AV)) (d : List AV) : (AV.sl x sz css d).one = true := (rfl)
@[go_sem] theorem one_pt (i m k j : Nat) : (AV.pt i m k j).one = true := (rfl)
@[go_sem] theorem one_rs (i m k j : Nat) : (AV.rs i m k j).one = true := (rfl)
@[go_sem] theorem one_rv (i m k j q : Nat) : (AV.rv i m k j q).one = true := (rfl)
@[go_sem] theorem one_ip (cs : List AV) : (AV.ip cs).one = true := (rfl)
end
attribute [go_sem] Hp.get Hp.put lget lput ldel lputs entry ids srcOf vAppTo vApp room stored storable litCss
@[go_sem] theorem unG_sl (x : Bool) (sz : Nat) (css : List (List AV)) (d : List AV) : unG (.sl x sz css d) = (true, .sl x sz css d) := (rfl)
@[go_sem] theorem unG_pt (i m k j : Nat) : unG (.pt i m k j) = (true, .pt i m k j) := (rfl)
@[go_sem] theorem unG_rs (i m k j : Nat) : unG (.rs i m k j) = (true, .rs i m k j) := (rfl)
@[go_sem] theorem unG_rv (i m k j q : Nat) : unG (.rv i m k j q) = (true, .rv i m k j q) := (rfl)
attribute [go_sem] AV.all allL noQ AV.flat flatL rowQ shut fits fresh stay ldelS notQ lone neQ VToL
@[go_sem] theorem good_nil_ (sz : Nat) : Good sz [] = True := by simp [good_nil]
@[go_sem] theorem good_cons_ (sz : Nat) (cs : List AV) (css : List (List AV)) : Good sz (cs :: css) = ((cs.length = sz ∧ ones cs = true) ∧ Good sz css) := by simp [Good]
@[go_sem] theorem good_append_ (sz : Nat) (a b : List (List AV)) : Good sz (a ++ b) = (Good sz a ∧ Good sz b) := by
  apply propext
  exact ⟨fun h => ⟨fun c hc => h c (List.mem_append_left _ hc), fun c hc => h c (List.mem_append_right _ hc)⟩, fun h => good_append h.1 h.2⟩
@[go_sem] theorem good_map_ {α : Type} (enc : α → List AV) (sz : Nat) [EncOK enc sz] (l : List α) : Good sz (l.map enc) = True := by simp [good_map]
@[go_sem] theorem ql_nil_ (q : Nat → Bool) : QL q [] = True := by simp [ql_nil]
@[go_sem] theorem ql_cons_ (q : Nat → Bool) (cs : List AV) (css : List (List AV)) : QL q (cs :: css) = (allL q cs = true ∧ QL q css) := by simp [QL]
@[go_sem] theorem ql_append_ (q : Nat → Bool) (a b : List (List AV)) : QL q (a ++ b) = (QL q a ∧ QL q b) := by
  apply propext
  exact ⟨fun h => ⟨fun c hc => h c (List.mem_append_left _ hc), fun c hc => h c (List.mem_append_right _ hc)⟩, fun h => ql_append h.1 h.2⟩
@[go_sem] theorem ql_map_ {α : Type} (q : Nat → Bool) (enc : α → List AV) {sz : Nat} [EncOK enc sz] (l : List α) : QL q (l.map enc) = True := by simp [ql_map]
@[go_sem] theorem getD_map_ {α : Type} [Inhabited α] (enc : α → List AV) (l : List α) (k : Nat) (h : k < l.length) : (l.map enc).getD k [] = enc (nth l k) := by simp [nth, h]
@[go_sem] theorem getD_mapd_ {α : Type} [Inhabited α] (enc : α → List AV) (l : List α) (k : Nat) : (l.map enc).getD k (enc default) = enc (nth l k) := by
  unfold nth
  rcases Nat.lt_or_ge k l.length with h | h <;> simp [h]
@[go_sem] theorem map_drop_ {α : Type} (enc : α → List AV) (l : List α) (k : Nat) : (l.map enc).drop k = (l.drop k).map enc := by simp
@[go_sem] theorem map_take_ {α : Type} (enc : α → List AV) (l : List α) (k : Nat) : (l.map enc).take k = (l.take k).map enc := by simp
@[go_sem] theorem take_all_ {α : Type} (l : List α) : l.take l.length = l := by simp
@[go_sem] theorem length_map_ {α β : Type} (f : α → β) (l : List α) : (l.map f).length = l.length := by simp
@[go_sem] theorem length_append_ {α : Type} (a b : List α) : (a ++ b).length = a.length + b.length := by simp
@[go_sem] theorem map_append_ {α β : Type} (f : α → β) (a b : List α) : (a ++ b).map f = a.map f ++ b.map f := by simp
@[go_sem] theorem contains_nil_ (i : Nat) : ([] : List Nat).contains i = false := (rfl)
@[go_sem] theorem contains_cons_ (i j : Nat) (l : List Nat) : (j :: l).contains i = (i == j || l.contains i) := List.contains_cons
@[go_sem] theorem row_vec_inj (e e' : TypeId) (sz sz' : Nat) (a b : List (List AV)) : (Row.vec e sz a = Row.vec e' sz' b) = (e = e' ∧ sz = sz' ∧ a = b) := by simp
@[go_sem] theorem row_var_inj (e e' : TypeId) (a b : List AV) : (Row.var e a = Row.var e' b) = (e = e' ∧ a = b) := by simp
attribute [go_sem] List.getD_cons_zero List.getD_cons_succ List.getD_nil List.set_cons_zero List.set_cons_succ List.set_nil List.map_nil List.map_cons List.getElem?_cons_zero List.getElem?_cons_succ List.getElem?_nil List.getElem?_toArray List.all_nil List.all_cons List.append_nil List.nil_append List.cons_append List.length_cons List.length_nil List.take_succ_cons List.take_zero List.take_nil List.drop_succ_cons List.drop_zero List.drop_nil List.flatten_nil List.flatten_cons
theorem beq_true_ (b : Bool) : (b == true) = b := by cases b <;> rfl
theorem beq_false_ (b : Bool) : (b == false) = !b := by cases b <;> rfl
attribute [go_sem] if_true if_false true_and and_true false_and and_false Option.map_some Option.map_none Option.getD_some Option.getD_none Option.bind_some Option.bind_none Option.isSome_some Option.isNone_some Option.isNone_none Option.some.injEq Bool.and_true Bool.true_and Bool.and_self Bool.not_true Bool.not_false beq_true_ beq_false_ Bool.false_eq_true Bool.true_eq_false reduceCtorEq imp_self implies_true forall_const or_true true_or or_self or_false false_or not_true_eq_false not_false_eq_true eq_self ne_eq and_self List.foldl_cons List.foldl_nil Bool.not_eq_true' Bool.or_true Bool.or_false Bool.true_or Bool.false_or decide_true decide_false Nat.zero_add Nat.add_zero Nat.le_refl Int.toNat_natCast
@[go_sem] theorem bsel_false (c x : Bool) : bsel c x false = (c && x) := by cases c <;> rfl
@[go_sem] theorem bsel_true (c y : Bool) : bsel c true y = (c || y) := by cases c <;> rfl
@[go_sem] theorem xor_false_ (b : Bool) : (false ^^ b) = b := by cases b <;> rfl
@[go_sem] theorem xor_true_ (b : Bool) : (true ^^ b) = !b := by cases b <;> rfl

@[go_sem] theorem ablock_exit_if (id id' : Nat) (Q : Exit → List AV → Hp → Prop) (F : List AV) (H : Hp) : ABlock id Q (.exit id') F H = if id' = id then Q .normal F H else Q (.exit id') F H := (rfl)

def sets (J : List (Nat × AV)) (F : List AV) : List AV := J.foldl (fun F p => F.set p.1 p.2) F
attribute [go_sem] sets mask maskR List.replicate_succ List.replicate_zero

/-- What a round must hand on. -/
def Next (n : Nat) {S : Type} (W : List (Nat × Nat)) (ok : S → Prop) (J : S → List (Nat × AV)) (G : S → Hp) (μ : S → Nat) (F₀ F : List AV) (H : Hp) : Prop := ∃ s, μ s < n ∧ FLe F H (sets (J s) (mask W F₀)) (G s) ∧ ok s
theorem next_mk {n : Nat} {S : Type} {W : List (Nat × Nat)} {ok : S → Prop} {J : S → List (Nat × AV)} {G : S → Hp} {μ : S → Nat} {F₀ F : List AV} {H : Hp} (s : S) (h1 : ok s) (h2 : μ s < n) (h4 : H = G s) (h3 : LLe F (sets (J s) (mask W F₀))) : Next n W ok J G μ F₀ F H := ⟨s, h2, by rw [← h4]; exact FLe.pt H h3, h1⟩
/-- A round's end where things are let go of. -/
theorem next_free {n : Nat} {S : Type} {W : List (Nat × Nat)} {ok : S → Prop} {J : S → List (Nat × AV)} {G : S → Hp} {μ : S → Nat} {F₀ F : List AV} {H : Hp} (D : Nat → Bool) (s : S) (h1 : ok s) (h2 : μ s < n) (hB : H.B.all (notQ D) = true) (hl : stay D H.l) (h4 : ⟨H.B, ldelS D H.l⟩ = G s) (h3 : VToL D H F (sets (J s) (mask W F₀))) : Next n W ok J G μ F₀ F H := ⟨s, h2, by rw [← h4]; exact FLe.free D hB hl h3, h1⟩
/-- A loop: W: the slots that a round writes; J: what some of them hold at a round's head; G: what is owned then; ok: what holds of one's own state. -/
theorem awp_loop_inv {P : Program} {c : Code} {Q : Exit → List AV → Hp → Prop} {F : List AV} {H : Hp} {S : Type} (W : List (Nat × Nat)) (ok : S → Prop) (J : S → List (Nat × AV)) (G : S → Hp) (μ : S → Nat) (s₀ : S) (h0 : ok s₀) (hle : FLe F H (sets (J s₀) (mask W F)) (G s₀))
    (round : ∀ s, ok s → ∀ K : List AV → Hp → Prop, (∀ F' H', Next (μ s) W ok J G μ F F' H' → K F' H') → AWP P c (AThen K Q) (sets (J s) (mask W F)) (G s)) : AWP P (.loop c) Q F H := by
  refine awp_loop (S := S) (fun s F' H' => F' = sets (J s) (mask W F) ∧ H' = G s ∧ ok s) μ s₀ hle ⟨rfl, rfl, h0⟩ ?_
  rintro s F' H' ⟨rfl, rfl, hok⟩
  refine round s hok _ ?_
  rintro F'' H'' ⟨s', h1, h2, h3⟩
  exact ⟨s', _, _, h1, h2, rfl, rfl, h3⟩
theorem fle_at {F F' : List AV} {H H' : Hp} (h1 : H = H') (h2 : LLe F F') : FLe F H F' H' := by rw [← h1]; exact FLe.pt H h2

theorem ret_mk {P : Program} {fn : Func} {R : AV → List (Nat × Row) → Prop} {F : List AV} {H : Hp} {out : List AV} {e : Exit} (he : e = .normal ∨ e = .ret) (ho : ares P H F fn.results.toList = some out) (hok : aresOK P H F fn.results.toList) (r : AV) (H' : Hp) (hle : RLe (aresult out) H r H') (hR : R r H'.l) : ARet P fn R e F H := by
  rcases he with rfl | rfl <;> exact ⟨out, r, H', ho, hok, hle, hR⟩

theorem vAlloc_intro {P : Program} {H : Hp} {t : TypeId} {K : AV → Hp → Prop} (i : Nat) {zs : List Value} (hz : zeroL P t = some zs) (hi : H.get i = none) (h : K (.pt i 0 0 0) (H.put i (.var t (zs.map .raw)))) : vAlloc P H t K := by
  unfold vAlloc
  rw [hz]
  exact ⟨i, hi, h⟩
theorem vBox_intro {H : Hp} {t : TypeId} {x : AV} {K : AV → Hp → Prop} (i : Nat) (ho : ones x.cells = true) (hi : H.get i = none) (h : K (.pt i 0 0 0) (H.put i (.var t x.cells))) : vBox H t x K := ⟨ho, i, hi, h⟩
theorem vFresh_intro {H : Hp} {A : Nat → Prop} {d : Dep A} (i : Nat) (hi : H.get i = none) (h : A i) : vFresh H A d := ⟨i, hi, h⟩
/-- The next number. -/
def nxF : List (Nat × Row) → Nat → Nat
  | [], m => m
  | (i, _) :: l, m => nxF l (if m ≤ i then i + 1 else m)
def nx (l : List (Nat × Row)) : Nat := nxF l 0
theorem nxF_none : ∀ (l : List (Nat × Row)) (m i : Nat), nxF l m ≤ i → lget l i = none ∧ m ≤ i
  | [], m, i, h => ⟨rfl, h⟩
  | (j, r) :: l, m, i, h => by
    obtain ⟨h1, h2⟩ := nxF_none l _ i h
    simp only [lget]
    split at h2
    · rw [if_neg (by omega)]; exact ⟨h1, by omega⟩
    · rw [if_neg (by omega)]; exact ⟨h1, h2⟩
theorem nx_none (l : List (Nat × Row)) (i : Nat) (h : nx l ≤ i) : lget l i = none := (nxF_none l 0 i h).1
attribute [go_sem] nxF
attribute [go_sem] nx
@[go_sem] theorem optArr_none : (none : Option Operand).toArray.toList = [] := rfl
@[go_sem] theorem optArr_some (x : Operand) : (some x).toArray.toList = [x] := rfl
theorem vFresh_next {H : Hp} {A : Nat → Prop} {d : Dep A} (h : A (nx H.l)) : vFresh H A d := ⟨_, nx_none _ _ (Nat.le_refl _), h⟩
theorem vAlloc_next {P : Program} {H : Hp} {t : TypeId} {K : AV → Hp → Prop} {zs : List Value} (hz : zeroL P t = some zs) (h : K (.pt (nx H.l) 0 0 0) (H.put (nx H.l) (.var t (zs.map .raw)))) : vAlloc P H t K := vAlloc_intro _ hz (nx_none _ _ (Nat.le_refl _)) h
theorem vBox_next {H : Hp} {t : TypeId} {x : AV} {K : AV → Hp → Prop} (ho : ones x.cells = true) (h : K (.pt (nx H.l) 0 0 0) (H.put (nx H.l) (.var t x.cells))) : vBox H t x K := vBox_intro _ ho (nx_none _ _ (Nat.le_refl _)) h
theorem vLitK_tree {e : TypeId} {sz : Nat} {css : List (List AV)} {H : Hp} {K : AV → Hp → Prop} (h1 : allL noQ css.flatten = true) (h2 : K (.sl true sz css []) H) : vLitK e sz css H K := .inl ⟨h1, h2⟩
theorem vLitK_own {e : TypeId} {sz : Nat} {css : List (List AV)} {H : Hp} {K : AV → Hp → Prop} (i : Nat) (h0 : 0 < sz) (hi : H.get i = none) (h2 : K (.rs i css.length sz css.length) (H.put i (.vec e sz css))) : vLitK e sz css H K := .inr ⟨h0, i, hi, h2⟩
theorem vLitK_next {e : TypeId} {sz : Nat} {css : List (List AV)} {H : Hp} {K : AV → Hp → Prop} (h0 : 0 < sz) (h2 : K (.rs (nx H.l) css.length sz css.length) (H.put (nx H.l) (.vec e sz css))) : vLitK e sz css H K := vLitK_own _ h0 (nx_none _ _ (Nat.le_refl _)) h2
theorem vLitK_zero {e : TypeId} {sz : Nat} {H : Hp} {K : AV → Hp → Prop} (h0 : 0 < sz) (h2 : K (.rs (nx H.l) 0 sz 0) (H.put (nx H.l) (.vec e sz []))) : vLitK e sz [] H K := vLitK_next h0 h2
/-- Where ways meet again: what is known of the state there. -/
theorem awp_seq_cut {P : Program} {x y : Code} {Q : Exit → List AV → Hp → Prop} {F : List AV} {H : Hp} {S : Type} (W : List (Nat × Nat)) (ok : S → Prop) (J : S → List (Nat × AV)) (G : S → Hp)
    (h1 : ∀ K : List AV → Hp → Prop, (∀ s F' H', ok s → FLe F' H' (sets (J s) (mask W F)) (G s) → K F' H') → AWP P x (AThen K Q) F H) (h2 : ∀ s, ok s → AWP P y Q (sets (J s) (mask W F)) (G s)) : AWP P (.seq x y) Q F H := by
  refine awp_seq (awp_mono (h1 (fun F' H' => ∃ s, ok s ∧ FLe F' H' (sets (J s) (mask W F)) (G s)) fun s F' H' a b => ⟨s, a, b⟩) fun e F' H' hq => ?_)
  cases e with
  | normal => obtain ⟨s, a, b⟩ := hq; exact awp_weak b (h2 s a)
  | _ => exact hq
/-- An argument may be said more weakly. -/
def VLe (a a' : AV) : Prop := ∀ (w : NW) v, RelV w a v → RelV w a' v
theorem VLe.refl (a : AV) : VLe a a := fun _ _ h => h
theorem VLe.sl {x : Bool} {sz : Nat} {css : List (List AV)} {d d' : List AV} : VLe (.sl x sz css d) (.sl false sz css d') := fun w v hr => by
  cases hr with
  | sl0 _ _ A c _ => exact .sl0 _ _ _ _ (fun e => by cases e)
  | sl _ _ _ a c vs hn hc hx hsz hb hH hcell hr => exact .sl _ _ _ a c vs hn hc (fun e => by cases e) hsz hb hH hcell hr
theorem VLe.nil {sz : Nat} {d : List AV} : VLe (.raw (.slice none 0 0)) (.sl false sz [] d) := fun w v hr => by
  have := raw_inv hr
  subst this
  exact .sl0 _ _ _ _ (fun e => by cases e)
def VLes : List AV → List AV → Prop
  | [], [] => True
  | a :: l, b :: m => VLe a b ∧ VLes l m
  | _, _ => False
theorem VLes.get : ∀ {l m : List AV}, VLes l m → l.length = m.length ∧ ∀ (i : Nat) a b, l[i]? = some a → m[i]? = some b → VLe a b
  | [], [], _ => ⟨rfl, fun i a b h => by simp at h⟩
  | x :: l, y :: m, h => by
    have ih := VLes.get h.2
    refine ⟨by simp [ih.1], fun i a b ha hb => ?_⟩
    cases i with
    | zero => simp at ha hb; subst ha hb; exact h.1
    | succ i => exact ih.2 i a b (by simpa using ha) (by simpa using hb)
theorem hcall_weak {P : Program} {f : FuncId} {args args' : List AV} {H : Hp} {K : AV → Hp → Prop} (hl : VLes args args') (h : HCalls P f args' H K) : HCalls P f args H K := fun w vs h1 h2 => by
  obtain ⟨hlen, hg⟩ := hl.get
  refine h w vs h1 ⟨hlen.symm.trans h2.1, fun i a v ha hv => ?_⟩
  have hi : i < args.length := by rw [hlen]; exact (List.getElem?_eq_some_iff.1 ha).1
  exact hg i args[i] a (List.getElem?_eq_getElem hi) ha w v (h2.2 i _ v (List.getElem?_eq_getElem hi) hv)

attribute [go_sem] aresult
@[go_sem] theorem getD_drop_ (l : List AV) (n m : Nat) : (l.drop n).getD m .any = l.getD (n + m) .any := by simp [List.getD_eq_getElem?_getD]
attribute [go_sem] List.drop_drop List.length_drop Array.toList_append
theorem ret_fun {P : Program} {fn : Func} {F : List AV} {H : Hp} {out : List AV} {e : Exit} {r : AV} {l : List (Nat × Row)} (he : e = .normal ∨ e = .ret) (ho : ares P H F fn.results.toList = some out) (hok : aresOK P H F fn.results.toList) (h1 : aresult out = r) (h2 : H.l = l) : ARet P fn (fun r' l' => r' = r ∧ l' = l) e F H :=
  ret_mk he ho hok r H (RLe.of_eq H h1) ⟨rfl, h2⟩
/-- A result that is from then on read only, things that are let go of. -/
theorem ret_free {P : Program} {fn : Func} {F : List AV} {H : Hp} {out : List AV} {e : Exit} {r : AV} {l : List (Nat × Row)} (D : Nat → Bool) (he : e = .normal ∨ e = .ret) (ho : ares P H F fn.results.toList = some out) (hok : aresOK P H F fn.results.toList) (hB : H.B.all (notQ D) = true) (hl : stay D H.l) (hv : VTo D H (aresult out) r) (h2 : ldelS D H.l = l) : ARet P fn (fun r' l' => r' = r ∧ l' = l) e F H :=
  ret_mk he ho hok r _ (RLe.free D hB hl hv) ⟨rfl, h2⟩
theorem vto_eq {D : Nat → Bool} {H : Hp} {a a' : AV} (h : a = a') (hq : a.all (notQ D) = true) : VTo D H a a' := by subst h; exact .same _ hq
/-- All that is not the caller's is let go of. -/
def mineQ (B : List Nat) : Nat → Bool := fun i => !(B.contains i)
theorem ret_drop {P : Program} {fn : Func} {F : List AV} {H : Hp} {out : List AV} {e : Exit} {r : AV} {l : List (Nat × Row)} (he : e = .normal ∨ e = .ret) (ho : ares P H F fn.results.toList = some out) (hok : aresOK P H F fn.results.toList) (hl : stay (mineQ H.B) H.l) (hv : VTo (mineQ H.B) H (aresult out) r) (h2 : ldelS (mineQ H.B) H.l = l) : ARet P fn (fun r' l' => r' = r ∧ l' = l) e F H :=
  ret_free (mineQ H.B) he ho hok (by
    rw [List.all_eq_true]
    intro x hx
    simp [notQ, mineQ, hx]) hl hv h2
attribute [go_sem] ares aresOK
theorem ret_drop2 {P : Program} {fn : Func} {F : List AV} {H : Hp} {out : List AV} {e : Exit} {r : AV} {l : List (Nat × Row)} (rs : List ResultVar) (hrs : fn.results.toList = rs) (he : e = .normal ∨ e = .ret) (ho : ares P H F rs = some out) (hok : aresOK P H F rs) (hl : stay (mineQ H.B) H.l) (hv : VTo (mineQ H.B) H (aresult out) r) (h2 : ldelS (mineQ H.B) H.l = l) : ARet P fn (fun r' l' => r' = r ∧ l' = l) e F H := by
  subst hrs
  exact ret_drop he ho hok hl hv h2
theorem ret_fun2 {P : Program} {fn : Func} {F : List AV} {H : Hp} {out : List AV} {e : Exit} {r : AV} {l : List (Nat × Row)} (rs : List ResultVar) (hrs : fn.results.toList = rs) (he : e = .normal ∨ e = .ret) (ho : ares P H F rs = some out) (hok : aresOK P H F rs) (h1 : aresult out = r) (h2 : H.l = l) : ARet P fn (fun r' l' => r' = r ∧ l' = l) e F H := by
  subst hrs
  exact ret_fun he ho hok h1 h2
attribute [go_sem] mineQ cond_true cond_false loaded
/-- Things that a round has made are let go of. -/
theorem next_drop {n : Nat} {S : Type} {W : List (Nat × Nat)} {ok : S → Prop} {J : S → List (Nat × AV)} {G : S → Hp} {μ : S → Nat} {F₀ F : List AV} {H : Hp} (L : List Nat) (s : S) (h1 : ok s) (h2 : μ s < n) (hB : H.B.all (notQ fun i => L.contains i) = true) (hl : stay (fun i => L.contains i) H.l) (h4 : ⟨H.B, ldelS (fun i => L.contains i) H.l⟩ = G s) (h3 : VToL (fun i => L.contains i) H F (sets (J s) (mask W F₀))) : Next n W ok J G μ F₀ F H := next_free _ s h1 h2 hB hl h4 h3
theorem vto_any {D : Nat → Bool} {H : Hp} (a : AV) : VTo D H a .any := .drop a
@[go_sem] theorem vAppRs_same (i : Nat) (e : TypeId) (m sz : Nat) (css ys : List (List AV)) (H : Hp) (K : AV → Hp → Prop) : vAppRs i e m sz m css ys H K = K (.rs i (m + ys.length) sz (m + ys.length)) (H.put i (.vec e sz (css ++ ys))) := if_pos rfl
/-- Appended where a row was cut. -/
theorem vAppRs_over {α : Type} {enc : α → List AV} (vars more ys : List α) {i : Nat} {e : TypeId} {m sz n : Nat} {css yss : List (List AV)} {H : Hp} {K : AV → Hp → Prop} (hm : m = vars.length + more.length) (hn : n = vars.length) (hc : css = (vars ++ more).map enc) (hy : yss = ys.map enc)
    (h : K (.rs i (vars.length + ys.length + (more.drop ys.length).length) sz (vars.length + ys.length)) (H.put i (.vec e sz ((vars ++ ys ++ more.drop ys.length).map enc)))) : vAppRs i e m sz n css yss H K := by
  subst hm hn hc hy
  unfold vAppRs
  split
  · rename_i h'
    have : more = [] := List.length_eq_zero_iff.1 (by omega)
    subst this
    simpa using h
  · have e1 : max (vars.length + more.length) (vars.length + (ys.map enc).length) = vars.length + ys.length + (more.drop ys.length).length := by simp; omega
    have e2 : over ((vars ++ more).map enc) vars.length (ys.map enc) = (vars ++ ys ++ more.drop ys.length).map enc := by
      unfold over
      rw [← List.map_take, List.take_left', ← List.map_drop, List.length_map, List.drop_append, List.drop_eq_nil_of_le (by omega), List.nil_append]
      · simp
      · rfl
    rw [e1, e2]
    simpa using h
theorem rawBool_eq {b c : Bool} (h : b = c) : AV.raw (.bool b) = AV.raw (.bool c) := by rw [h]
theorem rawInt_eq {k : IntKind} {b c : Int} (h : b = c) : AV.raw (.int k b) = AV.raw (.int k c) := by rw [h]
end Go.Gd

/- Quiet operations, the rest: cuts, conversions, literals of structs; and all of them in one. No conditions. -/
import Derived.Test.YtemapkbfpkdddaaFcE
set_option linter.all false
namespace Go.Fc
open Go

section
variable {P : Program} {w : World} {H : Hp}

theorem optInt_rel {a : Option AV} {v : Option Value} {i : Option Int} (ha : optInt a = some i) (hr : ∀ x y, a = some x → v = some y → RelV w H x y) (hs : a.isSome = v.isSome) : (i = none ∧ v = none) ∨ ∃ k n, i = some n ∧ v = some (.int k n) := by
  cases a with
  | none =>
    simp [optInt] at ha
    cases v with
    | none => exact .inl ⟨ha.symm, rfl⟩
    | some _ => simp at hs
  | some x =>
    cases v with
    | none => simp at hs
    | some y =>
      unfold optInt at ha
      split at ha <;> try cases ha
      · rename_i h; cases h
      · rename_i k n h
        cases h
        have := raw_inv (hr _ _ rfl rfl)
        subst this
        exact .inr ⟨k, n, rfl, rfl⟩

theorem bounds_run {isSlice : Bool} {len cap : Nat} {vlo vhi : Option Value} {lo hi : Option Int} (hlo : (lo = none ∧ vlo = none) ∨ ∃ k n, lo = some n ∧ vlo = some (.int k n)) (hhi : (hi = none ∧ vhi = none) ∨ ∃ k n, hi = some n ∧ vhi = some (.int k n))
    (h0 : 0 ≤ lo.getD 0) (h1 : lo.getD 0 ≤ hi.getD len) (h2 : hi.getD len ≤ cap) : (Instr.sliceBounds isSlice len cap vlo vhi none).run P w = .ok ((lo.getD 0).toNat, (hi.getD len).toNat, cap) w := by
  rcases hlo with ⟨rfl, rfl⟩ | ⟨k, n, rfl, rfl⟩ <;> rcases hhi with ⟨rfl, rfl⟩ | ⟨k', m, rfl, rfl⟩ <;> simp only [Option.getD_some, Option.getD_none] at *
  · simp [Instr.sliceBounds]
  · simp [Instr.sliceBounds, run_sliceBound w _ _ _ _ (show 0 ≤ m by omega) h2]
  · simp [Instr.sliceBounds, run_sliceBound w _ _ _ _ h0 h1]
  · simp [Instr.sliceBounds, run_sliceBound w _ _ _ _ (show 0 ≤ m by omega) h2, run_sliceBound w _ _ _ _ h0 (show n ≤ ((m.toNat : Nat) : Int) by omega)]

theorem qSlice_good (t : TypeId) {a : AV} {lo hi mx : Option AV} {va : Value} {vlo vhi vmx : Option Value} (ha : RelV w H a va) (hlo : ∀ x y, lo = some x → vlo = some y → RelV w H x y) (slo : lo.isSome = vlo.isSome)
    (hhi : ∀ x y, hi = some x → vhi = some y → RelV w H x y) (shi : hi.isSome = vhi.isSome) (hmx : ∀ x y, mx = some x → vmx = some y → RelV w H x y) (smx : mx.isSome = vmx.isSome) : Good P w H (Instr.sliceAt t va vlo vhi vmx) (qSlice P t a lo hi mx) := by
  intro hq
  unfold qSlice at *
  split at hq <;> try exact hq.elim
  · rename_i s l h e1 e2 
    obtain rfl : vmx = none := by cases vmx <;> simp_all
    have := raw_inv ha; subst this
    have ht := strT hq.1
    obtain ⟨h0, h1, h2⟩ := hq.2
    have hb := bounds_run (P := P) (w := w) (isSlice := false) (optInt_rel e1 hlo slo) (optInt_rel e2 hhi shi) h0 h1 h2
    exact ⟨_, by simp [Instr.sliceAt, run_underlying ht, Instr.slice, hb], .raw _⟩
  · rename_i x sz n f l h e1 e2
    obtain rfl : vmx = none := by cases vmx <;> simp_all
    obtain ⟨e, hu, hs⟩ := elSz_spec hq.1
    obtain ⟨h0, h1, h2⟩ := hq.2
    generalize hL : l.getD 0 = L at *
    generalize hh : h.getD (n : Int) = Hh at *
    obtain ⟨Ln, rfl⟩ := Int.eq_ofNat_of_zero_le h0
    obtain ⟨Hn, rfl⟩ := Int.eq_ofNat_of_zero_le (show (0 : Int) ≤ Hh by omega)
    simp only [Int.toNat_natCast]
    cases ha with
    | sl0 _ _ _ A c hx =>
      have hb := bounds_run (P := P) (w := w) (isSlice := true) (len := 0) (cap := c) (optInt_rel e1 hlo slo) (optInt_rel e2 hhi shi) (by rw [hL]; exact h0) (by rw [hL, hh]; exact h1) (by rw [hh]; omega)
      rw [hL, hh] at hb
      obtain rfl : Ln = 0 := by omega
      obtain rfl : Hn = 0 := by omega
      refine ⟨_, by simp [Instr.sliceAt, run_underlying hu, Instr.slice, hb, run_sizeOf' hs]; rfl, ?_⟩
      exact .sl0 false sz _ _ _ (fun h => by cases h)
    | sl _ _ _ _ ad c vs hn hc hx hsz hb' hH hcell hr =>
      have hb := bounds_run (P := P) (w := w) (isSlice := true) (len := n) (cap := c) (optInt_rel e1 hlo slo) (optInt_rel e2 hhi shi) (by rw [hL]; exact h0) (by rw [hL, hh]; exact h1) (by rw [hh]; omega)
      rw [hL, hh] at hb
      refine ⟨_, by simp [Instr.sliceAt, run_underlying hu, Instr.slice, hb, run_sizeOf' hs]; rfl, ?_⟩
      by_cases hz : Hn - Ln = 0
      · rw [hz]; exact .sl0 false sz _ _ _ (fun h => by cases h)
      · rw [if_neg (by omega)]
        refine .sl false sz _ _ (ad.add (Ln * sz)) (c - Ln) (fun j => vs (Ln * sz + j)) (by omega) (by omega) (fun h => by cases h) (fun i hi => hsz _ (by omega)) (by rw [block_of_add]; exact hb') (by rw [block_of_add]; exact hH)
          (fun i j hi hj => ?_) (fun i j u hi hu => ?_)
        · rw [add_of_add, show Ln * sz + (i * sz + j) = (Ln + i) * sz + j by rw [Nat.add_mul]; omega]
          exact hcell _ j (by omega) hj
        · rw [show Ln * sz + (i * sz + j) = (Ln + i) * sz + j by rw [Nat.add_mul]; omega]
          exact hr _ j u (by omega) hu
  · rename_i b o n c i e1 e2
    obtain rfl : vmx = none := by cases vmx <;> simp_all
    have := raw_inv ha; subst this
    obtain ⟨_, hsz, h0, h1⟩ := hq
    obtain ⟨sz, hsz⟩ := Option.isSome_iff_exists.1 hsz
    obtain ⟨e, hu, hs⟩ := elSz_spec hsz
    have hb := bounds_run (P := P) (w := w) (isSlice := true) (len := n) (cap := c) (optInt_rel e1 hlo slo) (optInt_rel e2 hhi shi) (by simp) (by simpa using h0) (by simpa using h1)
    simp only [Option.getD_none, Int.toNat_zero, Option.getD_some] at hb
    exact ⟨_, by simp [Instr.sliceAt, run_underlying hu, Instr.slice, hb, run_sizeOf' hs]; intro _; rfl, .raw _⟩
  · rename_i b o n c i h e1 e2
    obtain rfl : vmx = none := by cases vmx <;> simp_all
    have := raw_inv ha; subst this
    obtain ⟨_, hsz, h0, h1, h2⟩ := hq
    obtain ⟨sz, hsz⟩ := Option.isSome_iff_exists.1 hsz
    obtain ⟨e, hu, hs⟩ := elSz_spec hsz
    have hb := bounds_run (P := P) (w := w) (isSlice := true) (len := n) (cap := c) (optInt_rel e1 hlo slo) (optInt_rel e2 hhi shi) (by simpa using h0) (by simpa using h1) h2
    simp only [Option.getD_some] at hb
    refine ⟨_, ?_, .raw _⟩
    simp only [Instr.sliceAt, run_underlying hu, Instr.slice, hb, run_sizeOf' hs, Sem.run_bind, Result.andThen_ok, Sem.run_pure, hsz, Option.getD_some, cutOff]
    split
    · rfl
    · simp [add_plain]
  · rename_i l h e1 e2
    obtain rfl : vmx = none := by cases vmx <;> simp_all
    have := raw_inv ha; subst this
    obtain ⟨_, hsz, h0, h1⟩ := hq
    obtain ⟨sz, hsz⟩ := Option.isSome_iff_exists.1 hsz
    obtain ⟨e, hu, hs⟩ := elSz_spec hsz
    have hb := bounds_run (P := P) (w := w) (isSlice := true) (len := 0) (cap := 0) (optInt_rel e1 hlo slo) (optInt_rel e2 hhi shi) (by omega) (by simp; omega) (by simp; omega)
    simp only [h0, Int.toNat_zero, h1, Int.ofNat_zero] at hb
    exact ⟨_, by simp [Instr.sliceAt, run_underlying hu, Instr.slice, hb, run_sizeOf' hs], .raw _⟩
  · rename_i A n c lo hi km m e1 e2
    obtain ⟨vm, rfl⟩ : ∃ vm, vmx = some vm := by cases vmx <;> simp_all
    have := raw_inv ha; subst this
    have := raw_inv (hmx _ _ rfl rfl); subst this
    obtain ⟨_, hsz, h0, h1, h2, h3⟩ := hq
    obtain ⟨sz, hsz⟩ := Option.isSome_iff_exists.1 hsz
    obtain ⟨e, hu, hs⟩ := elSz_spec hsz
    rcases optInt_rel e1 hlo slo with ⟨h, _⟩ | ⟨k1, n1, h, rfl⟩
    · cases h
    cases h
    rcases optInt_rel e2 hhi shi with ⟨h, _⟩ | ⟨k2, n2, h, rfl⟩
    · cases h
    cases h
    have hb : (Instr.sliceBounds true n c (some (.int k1 lo)) (some (.int k2 hi)) (some (.int km m))).run P w = .ok (lo.toNat, hi.toNat, m.toNat) w := by
      simp [Instr.sliceBounds, run_sliceBound w _ _ _ _ (show 0 ≤ m by omega) h3, run_sliceBound w _ _ _ _ (show 0 ≤ hi by omega) (show hi ≤ ((m.toNat : Nat) : Int) by omega), run_sliceBound w _ _ _ _ h0 (show lo ≤ ((hi.toNat : Nat) : Int) by omega)]
    exact ⟨_, by simp [Instr.sliceAt, run_underlying hu, Instr.slice, hb, run_sizeOf' hs]; rfl, .any _⟩

theorem qConv_good (s d : TypeId) {a : AV} {v : Value} (h : RelV w H a v) : Good P w H (convert s d v) (qConv P s d a) := by
  intro hq
  unfold qConv at *
  split at hq <;> try exact hq.elim
  · rename_i k' n k e
    have := raw_inv h; subst this
    have hd : P.underlying d = some (.int k) := by unfold isIntT at e; split at e <;> simp_all
    obtain ⟨ds, hs⟩ := Option.isSome_iff_exists.1 hq
    refine ⟨.int k (k.wrap n), ?_, .raw _⟩
    cases ds <;> simp [convert, run_underlying hs, run_underlying hd, Conv.intToInt]
  · rename_i s' e
    have := raw_inv h; subst this
    have hd := strT hq.2
    obtain ⟨ds, hs⟩ := Option.isSome_iff_exists.1 hq.1
    refine ⟨.string s', ?_, .raw _⟩
    cases ds <;> simp [convert, run_underlying hs, run_underlying hd]

theorem qMaxMin_good (mx : Bool) (ts : Array TypeId) (ty : TypeId) {l : List AV} {vs : List Value} (h : RelL w H l vs) : Good P w H (if mx then Builtin.max_ ts ty vs.toArray else Builtin.min_ ts ty vs.toArray) (qMaxMin mx l) := by
  intro hq
  unfold qMaxMin at *
  split at hq <;> try exact hq.elim
  rename_i k a k' b
  obtain ⟨hl, hr⟩ := h
  match vs, hl with
  | [x, y], _ =>
    obtain rfl : k = k' := hq
    obtain rfl := raw_inv (hr 0 _ _ rfl rfl); obtain rfl := raw_inv (hr 1 _ _ rfl rfl)
    cases mx <;> exact ⟨_, by simp [Builtin.max_, Builtin.min_, Builtin.max2, Builtin.min2]; rfl, by simpa using RelV.raw _⟩

theorem fill_rel {pl : Nat → Option (Nat × Nat)} : ∀ {parts : List (Nat × AV)} {vparts : List (Nat × Value)} {cells : List AV} {cur : Array Value} {out : List AV},
    fillA pl cells parts = some out → parts.map (·.1) = vparts.map (·.1) → (∀ (i : Nat) a v, parts[i]? = some a → vparts[i]? = some v → RelL w H a.2.cells v.2.cells.toList) → RelL w H cells cur.toList →
    ∃ vs, Instr.fill pl cur vparts = some vs ∧ RelL w H out vs.toList
  | [], [], cells, cur, out, h, _, _, hc => by
    simp only [fillA, Option.some.injEq] at h
    subst h
    exact ⟨cur, rfl, hc⟩
  | [], _ :: _, _, _, _, _, he, _, _ => by simp at he
  | _ :: _, [], _, _, _, _, he, _, _ => by simp at he
  | (i, a) :: parts, (i', v) :: vparts, cells, cur, out, h, he, hr, hc => by
    simp only [List.map_cons, List.cons.injEq] at he
    obtain ⟨rfl, he⟩ := he
    simp only [fillA] at h
    split at h
    · rename_i off k hp
      split at h
      · rename_i hk
        have hv := hr 0 _ _ rfl rfl
        simp only at hv
        have hlen : v.cells.size = k := by have := hv.1; simp at this; omega
        have hcur : cells.length = cur.size := by simpa using hc.1
        have hset : ∀ (l : List Value) (o : Nat) (c : Array Value), (l.toArray.zipIdx.foldl (fun cs (x, j) => cs.setIfInBounds (o + j) x) c) = (c.toList.take o ++ l ++ c.toList.drop (o + l.length)).toArray ∨ c.size < o + l.length := by
          intro l o c
          by_cases hb : c.size < o + l.length
          · exact .inr hb
          · refine .inl ?_
            have gen : ∀ (l : List Value) (s : Nat) (c : Array Value), o + s + l.length ≤ c.size → ((l.zipIdx s).foldl (fun (cs : Array Value) (p : Value × Nat) => cs.setIfInBounds (o + p.2) p.1) c) = (c.toList.take (o + s) ++ l ++ c.toList.drop (o + s + l.length)).toArray := by
              intro l
              induction l with
              | nil => intro s c _; simp
              | cons x l ih =>
                intro s c hb
                simp only [List.zipIdx_cons, List.foldl_cons]
                rw [ih (s + 1) _ (by simp at hb ⊢; omega)]
                apply Array.ext'
                simp only [Array.toList_setIfInBounds]
                apply List.ext_getElem?
                intro m
                simp only [List.length_cons] at hb
                rcases Nat.lt_or_ge m (o + s) with h1 | h1
                · rw [List.append_assoc, List.getElem?_append_left (by simp; omega), List.append_assoc, List.getElem?_append_left (by simp; omega)]
                  simp only [List.getElem?_take, List.getElem?_set]
                  rw [if_pos (by omega), if_neg (by omega), if_pos h1]
                · rcases Nat.lt_or_ge m (o + s + 1) with h2 | h2
                  · obtain rfl : m = o + s := by omega
                    rw [List.append_assoc, List.getElem?_append_left (by simp; omega), List.append_assoc, List.getElem?_append_right (by simp; omega)]
                    simp only [List.getElem?_take, List.getElem?_set, List.length_take, Array.length_toList]
                    rw [if_pos (by omega)]
                    simp only [Nat.add_assoc, if_true]
                    rw [if_pos (by omega), show o + s - min (o + s) c.size = 0 by omega]
                    rfl
                  · rw [List.append_assoc, List.append_assoc, List.cons_append, List.getElem?_append_right (l₁ := List.take (o + (s + 1)) _) (by simp; omega), List.getElem?_append_right (l₁ := List.take (o + s) _) (by simp; omega)]
                    simp only [List.length_take, List.length_set, Array.length_toList]
                    rw [show m - min (o + s) c.size = (m - min (o + (s + 1)) c.size) + 1 by omega, List.getElem?_cons_succ]
                    rcases Nat.lt_or_ge (m - min (o + (s + 1)) c.size) l.length with h3 | h3
                    · rw [List.getElem?_append_left h3, List.getElem?_append_left h3]
                    · rw [List.getElem?_append_right h3, List.getElem?_append_right h3]
                      simp only [List.getElem?_drop, List.getElem?_set, List.length_cons]
                      rw [if_neg (by omega)]
                      congr 1
                      omega
            have := gen l 0 c (by omega)
            simp only [Nat.add_zero] at this
            rw [← this, ← Array.foldl_toList]
            simp
        have hfit : ¬ (cur.size < off + v.cells.toList.length) := by simp; omega
        have hs := (hset v.cells.toList off cur).resolve_right hfit
        rw [Array.toArray_toList] at hs
        obtain ⟨vs, h1, h2⟩ := fill_rel (cur := (cur.toList.take off ++ v.cells.toList ++ cur.toList.drop (off + v.cells.toList.length)).toArray) h he (fun i a v ha hv => hr (i + 1) a v (by simpa using ha) (by simpa using hv)) (by
          refine ⟨by simp [splice]; omega, fun m x y hx hy => ?_⟩
          simp only [splice] at hx
          rcases Nat.lt_or_ge m off with g1 | g1
          · rw [List.append_assoc, List.getElem?_append_left (by simp; omega), List.getElem?_take, if_pos g1] at hx hy
            exact hc.2 m x y hx hy
          · rcases Nat.lt_or_ge m (off + a.cells.length) with g2 | g2
            · rw [List.append_assoc, List.getElem?_append_right (by simp; omega), List.getElem?_append_left (by simp; omega)] at hx hy
              simp only [List.length_take, Array.length_toList] at hx hy
              rw [show m - min off cells.length = m - off by omega] at hx
              rw [show m - min off cur.size = m - off by omega] at hy
              exact hv.2 _ x y hx hy
            · rw [List.getElem?_append_right (by simp; omega)] at hx hy
              simp only [List.length_append, List.length_take, Array.length_toList, List.getElem?_drop] at hx hy
              rw [show off + a.cells.length + (m - (min off cells.length + a.cells.length)) = m by omega] at hx
              rw [show off + v.cells.size + (m - (min off cur.size + v.cells.size)) = m by omega] at hy
              exact hc.2 m x y hx hy)
        refine ⟨vs, ?_, h2⟩
        simp only [Instr.fill, hp]
        rw [if_neg (by simp; omega), hs]
        exact h1
      · cases h
    · cases h

theorem places_run {t : TypeId} {pl : List (Nat × Nat)} (h : places P t = some pl) : ∃ fs : Array Field, P.underlying t = some (.struct fs) ∧ (fs.mapM (m := Sem) fun f => do pure (f.offset, ← sizeOf f.type)).run P w = .ok pl.toArray w := by
  unfold places at h
  split at h
  · rename_i fs hu
    refine ⟨fs, hu, ?_⟩
    rw [Array.mapM_eq_mapM_toList]
    have gen : ∀ (l : List Field) (pl : List (Nat × Nat)), l.mapM (fun f => (szOf P f.type).map fun k => (f.offset, k)) = some pl → (l.mapM (m := Sem) fun f => do pure (f.offset, ← sizeOf f.type)).run P w = .ok pl w := by
      intro l
      induction l with
      | nil => intro pl h; simp at h; subst h; simp
      | cons f l ih =>
        intro pl h
        rw [List.mapM_cons] at h
        simp only [Option.bind_eq_bind, Option.bind_eq_some_iff, Option.map_eq_some_iff, Option.pure_def, Option.some.injEq] at h
        obtain ⟨p, ⟨k, hk, rfl⟩, rest, hrest, rfl⟩ := h
        rw [List.mapM_cons]
        simp only [Sem.run_bind, run_sizeOf' hk, Result.andThen_ok, Sem.run_pure, ih rest hrest]
    simp only [Sem.run_map, gen fs.toList pl h, Result.andThen_ok]
  · cases h

theorem qBuild_good (t : TypeId) {parts : List (Nat × AV)} {vparts : Array (Nat × Value)} (h1 : parts.map (·.1) = vparts.toList.map (·.1)) (h2 : ∀ (i : Nat) a v, parts[i]? = some a → vparts.toList[i]? = some v → RelV w H a.2 v.2) : Good P w H (Instr.build t vparts) (qBuild P t parts) := by
  intro hq
  unfold qBuild at *
  split at hq <;> try exact hq.elim
  rename_i zs pl e1 e2
  split at hq <;> try exact hq.elim
  rename_i out hf
  obtain ⟨z, hz, rfl⟩ := zeroL_ones (w := w) e1
  obtain ⟨fs, hu, hp⟩ := places_run (w := w) e2
  simp only [ones, List.all_eq_true] at hq
  have hone : ∀ (i : Nat) a, parts[i]? = some a → ones a.2.cells = true := fun i a ha => by
    simp only [ones, List.all_eq_true]
    intro x hx
    exact hq x (List.mem_flatten.2 ⟨_, List.mem_map.2 ⟨a, List.mem_of_getElem? ha, rfl⟩, hx⟩)
  obtain ⟨vs, g1, g2⟩ := fill_rel (w := w) (H := H) (cur := z.cells) hf h1 (fun i a v ha hv => (h2 i a v ha hv).cells_rel (hone i a ha))
    ⟨by simp, fun i a v ha hv => by
      simp only [List.getElem?_map, Option.map_eq_some_iff] at ha
      obtain ⟨x, hx, rfl⟩ := ha
      rw [hx] at hv; cases hv; exact .raw _⟩
  refine ⟨.agg vs, ?_, .agg _ _ (by have := g2.1; simpa using this) fun i a v ha hv => g2.2 i a v ha (by simpa using hv)⟩
  have e : (fun i : Nat => pl.toArray[i]?) = (fun i : Nat => pl[i]?) := by funext i; simp
  simp only [Instr.build, Sem.run_bind, hz, Result.andThen_ok, run_underlying hu, hp, e, g1, Sem.run_pure]
end
end Go.Fc

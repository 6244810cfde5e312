/- Laws of copy, clear, append of zeros, slices.overlaps at rows of one's own; a call that only reads, of arguments that lie in rows of one's own. No conditions. -/
import Derived.Test.YtemapkbfpkdddaaFcO
import Derived.Lib.Overlaps
set_option linter.all false
namespace Go.Fc
open Go
def H0 : Hp := fun _ => none

section
variable {P : Program} {H : Hp} {w : World}

theorem relW_none (w : World) : RelW w H0 := fun _ _ h => by cases h
theorem sub_none (H : Hp) : H0.Sub H := fun _ _ h => by cases h
/-- What is given back, without memory. -/
def flat : AV → Bool
  | .raw _ => true
  | .agg cs => cs.all fun | .raw _ => true | _ => false
  | .tup cs => cs.all fun | .raw _ => true | _ => false
  | _ => false
theorem RelV.flat {H' : Hp} {a : AV} {v : Value} (h : RelV w H a v) (hf : Fc.flat a = true) : RelV w H' a v := by
  unfold Fc.flat at hf
  split at hf
  · cases h; exact .raw _
  · rename_i cs
    simp only [List.all_eq_true] at hf
    cases h with
    | agg _ vs hl hr =>
      refine .agg _ vs hl fun i a v ha hv => ?_
      have := hf a (List.mem_of_getElem? ha)
      split at this
      · have := raw_inv (hr i _ v ha hv); subst this; exact .raw _
      · cases this
  · rename_i cs
    simp only [List.all_eq_true] at hf
    cases h with
    | tup _ vs hl hr =>
      refine .tup _ vs hl fun i a v ha hv => ?_
      have := hf a (List.mem_of_getElem? ha)
      split at this
      · have := raw_inv (hr i _ v ha hv); subst this; exact .raw _
      · cases this
  · cases hf

/-- What a reads as when nothing is owned. -/
def VTo (H : Hp) (a a' : AV) : Prop := ∀ w v, RelW w H → RelV w H a v → RelV w H0 a' v
theorem VTo.refl (H : Hp) (a : AV) : VTo H a a := fun _ _ _ h => h.ext (Ext.drop (sub_none H))
theorem VTo.own {B H : Hp} {e : TypeId} {sz n : Nat} {a : AV} {css : List (List AV)} {f : Nat → List AV} (h : Own B H e sz a css) (hn : css.length = n) (hf : ∀ i, i < n → css.getD i [] = f i) : VTo H a (.sl false sz n f) := fun w v h1 h2 => by
  obtain ⟨_, g, _⟩ := h.freeze hn hf w v h1 h2
  exact g.ext (Ext.drop (sub_none _))
theorem VTo.ptr {H : Hp} {b : Nat} {r : Row} (h : H b = some r) : VTo H (ptrAt b) (.ip r.cells) := fun w v h1 h2 => by
  have := raw_inv h2; subst this
  obtain ⟨cur, hh, hs, hl, hr⟩ := h1 b r h
  refine .ip _ ⟨b, 0, none⟩ (fun j => cur.getD j undef) (Array.getElem?_eq_some_iff.1 hh).1 rfl (fun j hj => ?_) (fun j u hu => ?_)
  · rw [add_plain, cell_of b _ cur r.elem (0, 0) hh, Nat.zero_add]
    simp [show j < cur.size by omega]
  · have : j < r.cells.length := (List.getElem?_eq_some_iff.1 hu).1
    exact (hr j u _ hu (by simp [show j < cur.size by omega])).ext (Ext.drop (sub_none _))
def VTos (H : Hp) : List AV → List AV → Prop
  | [], [] => True
  | a :: l, b :: m => VTo H a b ∧ VTos H l m
  | _, _ => False
theorem VTos.get : ∀ {l m : List AV}, VTos H l m → l.length = m.length ∧ ∀ (i : Nat) a b, l[i]? = some a → m[i]? = some b → VTo H a b
  | [], [], _ => ⟨rfl, fun i a b h => by simp at h⟩
  | x :: l, y :: m, h => by
    have ih := VTos.get h.2
    refine ⟨by simp [ih.1], fun i a b ha hb => ?_⟩
    cases i with
    | zero => simp at ha hb; subst ha hb; exact h.1
    | succ i => exact ih.2 i a b (by simpa using ha) (by simpa using hb)
theorem VTo.clo {f : FuncId} {cs cs' : List AV} (h : VTos H cs cs') : VTo H (.clo f cs) (.clo f cs') := fun w v h1 h2 => by
  obtain ⟨hl, hg⟩ := h.get
  cases h2 with
  | clo _ _ vs hn hr =>
    refine .clo f cs' vs (by omega) fun i a v ha hv => ?_
    have hi : i < cs.length := by have := (List.getElem?_eq_some_iff.1 ha).1; omega
    exact hg i cs[i] a (List.getElem?_eq_getElem hi) ha w v h1 (hr i _ v (List.getElem?_eq_getElem hi) hv)
theorem VTo.agg {cs cs' : List AV} (h : VTos H cs cs') : VTo H (.agg cs) (.agg cs') := fun w v h1 h2 => by
  obtain ⟨hl, hg⟩ := h.get
  cases h2 with
  | agg _ vs hn hr =>
    refine .agg cs' vs (by omega) fun i a v ha hv => ?_
    have hi : i < cs.length := by have := (List.getElem?_eq_some_iff.1 ha).1; omega
    exact hg i cs[i] a (List.getElem?_eq_getElem hi) ha w v h1 (hr i _ v (List.getElem?_eq_getElem hi) hv)

/-- A call that only reads. -/
theorem pcall_lift {f : FuncId} {args args' : List AV} {r : AV} (h : PCall P f args' H0 r) (hf : flat r = true) (hv : VTos H args args') : PCall P f args H r := fun w vs h1 h2 => by
  obtain ⟨hl, hg⟩ := hv.get
  have h2' : RelF w H0 args' vs := ⟨hl.symm.trans h2.1, fun i a v ha hv => by
    have hi : i < args.length := by have := (List.getElem?_eq_some_iff.1 ha).1; omega
    exact hg i args[i] a (List.getElem?_eq_getElem hi) ha w v h1 (h2.2 i _ v (List.getElem?_eq_getElem hi) hv)⟩
  refine (h w vs (relW_none w) h2').mono ?_
  rintro e w' ⟨v, r', H', rfl, ⟨rfl, rfl⟩, _, g2, g3⟩
  have ex : Ext w H w' H := ⟨g3.os, g3.tape, g3.output, g3.size, fun b hb hn => ⟨(g3.keep b hb rfl).1, hn⟩⟩
  refine ⟨v, _, H, rfl, ⟨rfl, rfl⟩, fun b row hb => ?_, g2.flat hf, ex⟩
  obtain ⟨cur, hh, hs, hl', hr⟩ := h1 b row hb
  exact ⟨cur, (g3.keep b (h1.lt hb) rfl).1.trans hh, hs, hl', fun i a v ha hv => (hr i a v ha hv).ext ex⟩

/-- What is copied: the first elements of a slice of N. -/
def SrcN (H : Hp) (sz : Nat) (x : AV) (N : Nat) (ys : List (List AV)) : Prop :=
  (∀ y ∈ ys, y.length = sz ∧ ones y = true) ∧ ∀ w vx, RelW w H → RelV w H x vx → ∃ A c news, vx = .slice A N c ∧ RelL w H ys.flatten news ∧ (0 < ys.length → ∃ ad, A = some ad ∧ ∀ (j : Nat) v, news[j]? = some v → w.cell? (ad.add j) = some v)
theorem Src.toN {sz : Nat} {x : AV} {ys : List (List AV)} (h : Src H sz x ys) : SrcN H sz x ys.length ys := h

-- what lies in a row of one's own, as what is copied
theorem src_own {b o N n c sz : Nat} {r : Row} {ys : List (List AV)} (hb : H b = some r) (hn : ys.length = n) (hy : ∀ y ∈ ys, y.length = sz ∧ ones y = true) (hc : ys.flatten = (r.cells.drop o).take (n * sz)) : SrcN H sz (.raw (.slice (some ⟨b, o, none⟩) N c)) N ys := by
  refine ⟨hy, fun w vx hw hr => ?_⟩
  have := raw_inv hr; subst this
  obtain ⟨cur, hh, hs, hl, hrr⟩ := hw b r hb
  have hfl := flatten_len fun y h => (hy y h).1
  have hlen : n * sz ≤ r.cells.length - o := by
    have h1 : ((r.cells.drop o).take (n * sz)).length = n * sz := by rw [← hc, hfl, hn]
    simp only [List.length_take, List.length_drop] at h1
    omega
  refine ⟨some ⟨b, o, none⟩, c, (cur.toList.drop o).take (n * sz), rfl, ⟨by rw [hfl, hn]; simp; omega, fun i a v ha hv => ?_⟩, fun _ => ⟨_, rfl, fun j v hv => ?_⟩⟩
  · rw [hc] at ha
    rw [List.getElem?_take] at ha hv
    split at ha
    · rename_i hi
      rw [if_pos hi] at hv
      rw [List.getElem?_drop] at ha hv
      exact hrr (o + i) a v ha (by simpa using hv)
    · cases ha
  · rw [List.getElem?_take] at hv
    split at hv
    · rw [List.getElem?_drop] at hv
      rw [add_plain, cell_of b _ cur r.elem (0, 0) hh]
      simpa using hv
    · cases hv

theorem take_flatten {sz : Nat} : ∀ (l : List (List AV)) (i : Nat), (∀ x ∈ l, x.length = sz) → l.flatten.take (i * sz) = (l.take i).flatten
  | [], i, _ => by simp
  | x :: l, 0, _ => by simp
  | x :: l, i + 1, h => by
    have hx := h x (by simp)
    rw [List.flatten_cons, List.take_succ_cons, List.flatten_cons, Nat.add_mul, Nat.one_mul, Nat.add_comm, ← hx, List.take_length_add_append, hx, take_flatten l i fun y hy => h y (by simp [hy])]
theorem drop_flatten {sz : Nat} : ∀ (l : List (List AV)) (i : Nat), (∀ x ∈ l, x.length = sz) → l.flatten.drop (i * sz) = (l.drop i).flatten
  | [], i, _ => by simp
  | x :: l, 0, _ => by simp
  | x :: l, i + 1, h => by
    have hx := h x (by simp)
    rw [List.flatten_cons, List.drop_succ_cons, Nat.add_mul, Nat.one_mul, Nat.add_comm, ← hx, List.drop_length_add_append, hx, drop_flatten l i fun y hy => h y (by simp [hy])]
theorem splice_flatten {sz : Nat} {css ys : List (List AV)} {i : Nat} (h : ∀ x ∈ css, x.length = sz) (hy : ∀ y ∈ ys, y.length = sz) : splice css.flatten (i * sz) ys.flatten = (css.take i ++ ys ++ css.drop (i + ys.length)).flatten := by
  unfold splice
  rw [flatten_len hy, ← Nat.add_mul, take_flatten _ _ h, drop_flatten _ _ h]
  simp

theorem copy_own {t e : TypeId} {sz b o n c m N : Nat} {r : Row} {x : AV} {ys : List (List AV)} {K : AV → Hp → Prop} (hu : P.underlying t = some (.slice e)) (hsz : szOf P e = some sz) (hb : H b = some r) (hx : SrcN H sz x N ys) (hm : min N n = m) (hmle : m ≤ ys.length)
    (ho : o ≤ r.cells.length) (hfit : o + m * sz ≤ r.size) (hk : K (.raw (.int .i64 m)) (H.put b ⟨r.elem, splice r.cells o (ys.take m).flatten, r.size⟩)) : BuiltinVC P .copy [t, t] [.raw (.slice (some ⟨b, o, none⟩) n c), x] H K := by
  intro w vs ty cs hw hr
  obtain ⟨vd, vx, rfl⟩ : ∃ vd vx, vs = [vd, vx] := by
    have := hr.1
    match vs, this with
    | [vd, vx], _ => exact ⟨vd, vx, rfl⟩
  have h0 := raw_inv (hr.2 0 _ vd rfl rfl)
  subst h0
  obtain ⟨hys, hsrc⟩ := hx
  obtain ⟨A, c', news, rfl, hnews, haddr⟩ := hsrc w vx hw (hr.2 1 _ vx rfl rfl)
  have hfl : ys.flatten.length = ys.length * sz := flatten_len fun y hy => (hys y hy).1
  have hyt : ∀ y ∈ ys.take m, y.length = sz := fun y h => (hys y (List.mem_of_mem_take h)).1
  have hflm : (ys.take m).flatten.length = m * sz := by rw [flatten_len hyt, List.length_take, Nat.min_eq_left hmle]
  have hmsz : m * sz ≤ ys.length * sz := Nat.mul_le_mul_right _ hmle
  have hnl : news.length = ys.length * sz := by rw [← hnews.1, hfl]
  have hrel : RelL w H (ys.take m).flatten (news.take (m * sz)) := by
    rw [← take_flatten _ _ fun y hy => (hys y hy).1]
    refine ⟨by simp [hnl, hfl], fun i a v ha hv => ?_⟩
    rw [List.getElem?_take] at ha hv
    split at ha
    · rename_i hi
      rw [if_pos hi] at hv
      exact hnews.2 i a v ha hv
    · cases ha
  obtain ⟨w', hst, g1, g2⟩ := storeCells_sound (P := P) (off := o) hw hb hrel (by
    simp only [ones, List.all_eq_true]
    intro u hu'
    obtain ⟨y, hy, huy⟩ := List.mem_flatten.1 hu'
    have := (hys y (List.mem_of_mem_take hy)).2
    simp only [ones, List.all_eq_true] at this
    exact this u huy) ho (by rw [hflm]; exact hfit)
  refine ⟨w', _, _, _, ?_, hk, g1, .raw _, g2⟩
  have hf : (Builtin.firstCells sz m (.slice A N c')).run P w = .ok (news.take (m * sz)).toArray w := by
    by_cases h0 : ys.length = 0
    · have : news = [] := by have := hnl; rw [h0, Nat.zero_mul] at this; simpa using this
      have hm0 : m = 0 := by omega
      subst this
      rw [hm0]
      cases A <;> simp [Builtin.firstCells, loadCells, loadCellsFrom]
    · obtain ⟨ad, rfl, hcell⟩ := haddr (by omega)
      exact run_firstCells_some (P := P) w sz m ad N c' (news.take (m * sz)) (by rw [List.length_take, Nat.min_eq_left (by omega)]) (fun j v h => hcell j v (by
        rw [List.getElem?_take] at h
        split at h
        · exact h
        · cases h))
  obtain ⟨i, hi, hisz⟩ : ∃ i, P.info? e = some i ∧ i.size = sz := by
    unfold szOf at hsz
    cases h : P.info? e with
    | none => rw [h] at hsz; cases hsz
    | some i => rw [h] at hsz; exact ⟨i, rfl, by simpa using hsz⟩
  have hmm : Nat.min N n = m := hm
  simp [builtin, Builtin.copy_, run_underlying hu, Builtin.lenOf, sizeOf, typeInfo, hi, hisz, hmm, hf, hst, goInt]

/-- Elements put in the place of elements. -/
def lput (L : List (List AV)) (i : Nat) (ys : List (List AV)) : List (List AV) := L.take i ++ ys ++ L.drop (i + ys.length)
theorem copy_el {t e : TypeId} {sz b o n c m N i S : Nat} {x : AV} {L ys : List (List AV)} {K : AV → Hp → Prop} (hu : P.underlying t = some (.slice e)) (hsz : szOf P e = some sz) (hb : H b = some ⟨e, L.flatten, S⟩) (hL : ∀ y ∈ L, y.length = sz) (hx : SrcN H sz x N ys) (hm : min N n = m) (hmle : m ≤ ys.length)
    (ho : o = i * sz) (hi : i ≤ L.length) (hfit : (i + m) * sz ≤ S) (hk : K (.raw (.int .i64 m)) (H.put b ⟨e, (lput L i (ys.take m)).flatten, S⟩)) : BuiltinVC P .copy [t, t] [.raw (.slice (some ⟨b, o, none⟩) n c), x] H K := by
  subst ho
  refine copy_own hu hsz hb hx hm hmle ?_ (by rw [Nat.add_mul] at hfit; exact hfit) ?_
  · simp only [flatten_len hL]; exact Nat.mul_le_mul_right _ hi
  · rw [splice_flatten hL fun y hy => (hx.1 y (List.mem_of_mem_take hy)).1]
    exact hk

theorem zeroCells_rep (z : Array Value) (m : Nat) : (Builtin.zeroCells z m).toList = (List.replicate m z.toList).flatten := by
  induction m with
  | zero => simp [Builtin.zeroCells]
  | succ m ih =>
    rw [List.replicate_succ', List.flatten_append, ← ih]
    apply List.ext_getElem
    · simp [Builtin.zeroCells, Nat.add_mul]
    · intro i h1 h2
      simp only [Builtin.zeroCells, Array.toList_map, Array.toList_range, List.getElem_map, List.getElem_range] at h1 ⊢
      rcases Nat.lt_or_ge i (m * z.size) with h | h
      · rw [List.getElem_append_left (by simpa using h)]; simp
      · rw [List.getElem_append_right (by simpa using h)]
        simp only [List.length_map, List.length_range, Array.size_range] at *
        simp only [List.length_map, List.length_range, Nat.add_mul, Nat.one_mul] at h1
        have hi : i % z.size = i - m * z.size := by
          have : i = (i - m * z.size) + m * z.size := by omega
          rw [this, Nat.add_mul_mod_self_right, Nat.mod_eq_of_lt (by omega)]; omega
        rw [hi]
        simp [getElem!_pos, show i - m * z.size < z.size by omega]


theorem clear_own {t e : TypeId} {sz b o n c : Nat} {zs : List Value} {r : Row} {K : AV → Hp → Prop} (hu : P.underlying t = some (.slice e)) (hz : zeroL P e = some zs) (hz1 : ones (zs.map .raw) = true) (hl : zs.length = sz) (hb : H b = some r) (hn : 0 < n)
    (ho : o ≤ r.cells.length) (hfit : o + n * sz ≤ r.size) (hk : K (.raw (.tuple #[])) (H.put b ⟨r.elem, splice r.cells o (List.replicate n (zs.map .raw)).flatten, r.size⟩)) : BuiltinVC P .clear [t] [.raw (.slice (some ⟨b, o, none⟩) n c)] H K := by
  intro w vs ty cs hw hr
  obtain ⟨vd, rfl⟩ : ∃ vd, vs = [vd] := by
    have := hr.1
    match vs, this with
    | [vd], _ => exact ⟨vd, rfl⟩
  have h0 := raw_inv (hr.2 0 _ vd rfl rfl)
  subst h0
  obtain ⟨z, hrun, hzc⟩ := zeroL_ones (w := w) hz
  have hrel : RelL w H (List.replicate n (zs.map AV.raw)).flatten (List.replicate n zs).flatten := by
    have : (List.replicate n (zs.map AV.raw)).flatten = ((List.replicate n zs).flatten).map .raw := by simp [List.map_flatten]
    rw [this]
    exact relL_raws _
  have hfl : (List.replicate n (zs.map AV.raw)).flatten.length = n * sz := by simp [hl]
  obtain ⟨w', hst, g1, g2⟩ := storeCells_sound (P := P) (off := o) hw hb hrel (by
    simp only [ones, List.all_eq_true] at hz1 ⊢
    intro u hu'
    obtain ⟨y, hy, huy⟩ := List.mem_flatten.1 hu'
    rw [List.eq_of_mem_replicate hy] at huy
    exact hz1 u huy) ho (by rw [hfl]; exact hfit)
  refine ⟨w', _, _, _, ?_, hk, g1, .raw _, g2⟩
  obtain ⟨k, rfl⟩ : ∃ k, n = k + 1 := ⟨n - 1, by omega⟩
  simp [builtin, Builtin.clear_, run_underlying hu, hrun, zeroCells_rep, hzc, hst]
theorem clear_none {t e : TypeId} {A : Option Addr} {c : Nat} {K : AV → Hp → Prop} (hu : P.underlying t = some (.slice e)) (hk : K (.raw (.tuple #[])) H) : BuiltinVC P .clear [t] [.raw (.slice A 0 c)] H K := by
  intro w vs ty cs hw hr
  obtain ⟨vd, rfl⟩ : ∃ vd, vs = [vd] := by
    have := hr.1
    match vs, this with
    | [vd], _ => exact ⟨vd, rfl⟩
  have h0 := raw_inv (hr.2 0 _ vd rfl rfl)
  subst h0
  refine ⟨w, _, _, _, ?_, hk, hw, .raw _, Ext.refl w H⟩
  cases A <;> simp [builtin, Builtin.clear_, run_underlying hu]

/-- As many zero elements behind the first i of a row of one's own, which has no room for them. -/
theorem append_zero {t t' e : TypeId} {k sz b i c cap : Nat} {q : Int} {zs : List Value} {css : List (List AV)} {K : AV → Hp → Prop} (hu : P.underlying t = some (.slice e)) (hu' : ∃ d, P.underlying t' = some (.int d)) (hsz : szOf P e = some sz) (hz : zeroL P e = some zs) (hz1 : ones (zs.map .raw) = true)
    (hl : zs.length = sz) (hb : H b = some ⟨e, css.flatten, cap⟩) (hlen1 : ∀ cs ∈ css, cs.length = sz ∧ ones cs = true) (hi : i ≤ css.length) (hc : c < i + k) (hroom : (i + k) * bytesT P e ≤ 140737488355328) (h63 : i + k ≤ 9223372036854775807) (hj : q = k)
    (hk : ∀ b' c', H b' = none → i + k ≤ c' → K (.raw (.slice (some ⟨b', 0, none⟩) (i + k) c')) (H.put b' ⟨e, (css.take i ++ List.replicate k (zs.map AV.raw)).flatten, c' * sz⟩)) : AppendTo P t t' (.raw (.slice (some ⟨b, 0, none⟩) i c)) (.raw (.int .i64 q)) H K := by
  subst hj
  intro w va vx ty hw hra hrx
  have := raw_inv hra; subst this
  have := raw_inv hrx; subst this
  obtain ⟨d, hd⟩ := hu'
  obtain ⟨z, hrun, hzc⟩ := zeroL_ones (w := w) hz
  have hzr : ∀ w, (zeroValue e).run P w = .ok z w := fun w' => by
    obtain ⟨z', hrun', _⟩ := zeroL_ones (w := w') hz
    have hzz : z' = z := by
      unfold zeroL at hz
      cases hi : P.info? e with
      | none => rw [hi] at hz; cases hz
      | some i =>
        rw [hi] at hz
        simp only [Option.bind_some, Option.map_eq_some_iff] at hz
        obtain ⟨z0, hz0, _⟩ := hz
        simp [zeroValue, typeInfo, hi, hz0] at hrun hrun'
        rw [← hrun', ← hrun]
    rw [← hzz]; exact hrun'
  obtain ⟨inf, hi', hisz⟩ : ∃ i, P.info? e = some i ∧ i.size = sz := by
    unfold szOf at hsz
    cases h : P.info? e with
    | none => rw [h] at hsz; cases hsz
    | some i => rw [h] at hsz; exact ⟨i, rfl, by simpa using hsz⟩
  have hby : bytesT P e = inf.bytes := by simp [bytesT, hi']
  rw [hby] at hroom
  obtain ⟨cur, hh, hcs, hcl, hcr⟩ := hw b _ hb
  simp only at hh hcs hcl hcr
  have hlen : ∀ cs ∈ css, cs.length = sz := fun cs h => (hlen1 cs h).1
  have hcfl := flatten_len hlen
  have hmul := Nat.mul_le_mul_right sz hi
  have holds : RelL w H (css.take i).flatten (cur.toList.take (i * sz)) := by
    rw [← take_flatten _ _ hlen]
    refine ⟨by simp only [List.length_take, Array.length_toList]; omega, fun x a v ha hv => ?_⟩
    rw [List.getElem?_take] at ha hv
    split at ha
    · rename_i h
      rw [if_pos h] at hv
      exact hcr x a v ha (by simpa using hv)
    · cases ha
  have hzrel : RelL w H (List.replicate k (zs.map AV.raw)).flatten (List.replicate k zs).flatten := by
    have : (List.replicate k (zs.map AV.raw)).flatten = ((List.replicate k zs).flatten).map .raw := by simp [List.map_flatten]
    rw [this]
    exact relL_raws _
  have hall := holds.append hzrel
  rw [← List.flatten_append] at hall
  have hlen1' : ∀ cs ∈ css.take i ++ List.replicate k (zs.map AV.raw), cs.length = sz ∧ ones cs = true := fun cs h => by
    rcases List.mem_append.1 h with h | h
    · exact hlen1 cs (List.mem_of_mem_take h)
    · rw [List.eq_of_mem_replicate h]; exact ⟨by simpa using hl, hz1⟩
  have hcap : i + k ≤ grownCap w (i + k) c e := by unfold grownCap Question.cut; simp
  have hzcl : z.cells.size = sz := by rw [← hl, ← hzc]; simp
  obtain ⟨g1, g2, g3, g4⟩ := grow_row (need := i + k) (rest := Builtin.zeroCells z.cells (grownCap w (i + k) c e - (i + k))) hw (Hp.Sub.refl H) hlen1' hall (by simp; omega) hcap (by simp [Builtin.zeroCells, hzcl])
  refine ⟨_, _, _, _, ?_, hk _ _ g4 hcap, g1, .raw _, g2⟩
  have hfirst : (Builtin.firstCells sz i (.slice (some ⟨b, 0, none⟩) i c)).run P w.drew = .ok (cur.toList.take (i * sz)).toArray w.drew := by
    refine run_firstCells_some (P := P) w.drew sz i ⟨b, 0, none⟩ i c _ (by simp only [List.length_take, Array.length_toList]; omega) (fun j v h => ?_)
    rw [List.getElem?_take] at h
    split at h
    · rw [add_plain, cell_of (w := w.drew) b _ cur e (0, 0) hh]
      simpa using h
    · cases h
  have hwk : IntKind.i64.wrap (k : Int) = k := wrap_in (by omega)
  have hb1 : ¬ (281474976710656 < (k : Int) * inf.bytes) := by
    have : k * inf.bytes ≤ (i + k) * inf.bytes := Nat.mul_le_mul_right _ (by omega)
    have h2 : ((k * inf.bytes : Nat) : Int) ≤ 140737488355328 := by omega
    rw [Int.natCast_mul] at h2
    omega
  have hfits := growslice_fits (bytes := inf.bytes) hc hroom
  have hb2 : ¬ (281474976710656 < Builtin.nextslicecap (i + k) c * inf.bytes) := by omega
  have hn1 : ¬ (i + k ≤ c) := by omega
  have hn2 : ¬ (9223372036854775807 < (i : Int) + (k : Int)) := by omega
  have hn3 : ¬ ((k : Int) < 0) := by omega
  have hiz : inf.zero = some z := by
    have := hzr w
    cases h : inf.zero with
    | none => simp [zeroValue, typeInfo, hi', h, stuck, unsupported] at this
    | some z' => simpa [zeroValue, typeInfo, hi', h] using this
  rw [hisz.symm] at hfirst
  by_cases h0 : k * inf.size = 0
  · have hzn : (List.replicate k zs).flatten = [] := by
      apply List.eq_nil_of_length_eq_zero
      simp [hl, ← hisz, h0]
    simp [Builtin.append_, run_underlying hu, run_underlying hd, sizeOf, typeInfo, zeroValue, hi', hiz, asInt, asIntOf, hwk, hb1, hb2, hn1, hn2, hn3, h0, Question.forced, hfirst, newRow, grownCap]
    simp [hzn, hisz]
  · simp [Builtin.append_, run_underlying hu, run_underlying hd, sizeOf, typeInfo, zeroValue, hi', hiz, asInt, asIntOf, hwk, hb1, hb2, hn1, hn2, hn3, h0, Question.forced, hfirst, newRow, grownCap]
    have : Builtin.zeroCells z.cells k = (List.replicate k zs).flatten.toArray := by
      apply Array.ext'
      rw [zeroCells_rep, hzc]
    rw [this]
    congr 2
    apply Array.ext'
    simp [hisz]
theorem overlaps_apart {f : FuncId} {fn : Func} {t tR e : TypeId} {sz n m b o c : Nat} {g : Nat → List AV} {r : Row} {K : AV → Hp → Prop} (hf : P.funcs[f]? = some fn) (hname : (fn.name == "runtime.NumGoroutine") = false) (hbn : fn.body.isNone = true) (hn : Extern.findNext fn = none)
    (he : Extern.find fn = some (Extern.SlicesOverlaps.overlaps #[t, t] #[tR])) (hu : P.underlying t = some (.slice e)) (hsz : szOf P e = some sz) (hb : H b = some r) (hr0 : r.size ≠ 0) (hn0 : 0 < n) (hk : K (.raw (.bool false)) H) :
    ExtVC P f [.sl true sz n g, .raw (.slice (some ⟨b, o, none⟩) m c)] H K := by
  intro w vs hw hr
  obtain ⟨vd, vx, rfl⟩ : ∃ vd vx, vs = #[vd, vx] := by
    have := hr.1
    match vs, this with
    | ⟨[vd, vx]⟩, _ => exact ⟨vd, vx, rfl⟩
  have h0 := raw_inv (hr.2 1 _ vx rfl rfl)
  subst h0
  have h1 := hr.2 0 _ vd rfl rfl
  cases h1 with
  | sl0 => omega
  | sl _ _ _ _ ad c' vs' _ _ hx _ hbl hH _ _ =>
    obtain ⟨_, cu, el, hpl⟩ := hx rfl
    obtain ⟨cur, hh, hs, hl, _⟩ := hw b r hb
    have hrun := Lib.run_overlaps_apart (P := P) w t tR e hu sz (fun _ => run_sizeOf' hsz) ad ⟨b, o, none⟩ n c' m c (fun e => by rw [e] at hH; rw [hb] at hH; cases hH) el r.elem cu.size r.size
      (by simp [World.shape?, hpl]) (by simp [World.shape?, hh, hs]) hr0 (by simp [World.frozen?, hpl]) (by simp [World.frozen?, hpl])
    refine ⟨_, w, _, H, ?_, hk, hw, .raw _, Ext.refl w H⟩
    rw [run_callFunc_extern hf hname hbn hn he, hrun]
    rfl
end
/-- The first number below n that p holds of, or -1. -/
def idxF (p : Nat → Bool) (n : Nat) : Int := match (List.range n).find? p with
  | some i => i
  | none => -1
theorem idxF_some {p : Nat → Bool} {n i : Nat} (hi : i < n) (h : p i = true) (hn : ∀ j, j < i → p j = false) : idxF p n = i := by
  unfold idxF
  have : (List.range n).find? p = some i := by
    rw [List.find?_range_eq_some]
    exact ⟨h, by simpa using hi, fun j hj => by simp [hn j hj]⟩
  rw [this]
theorem idxF_none {p : Nat → Bool} {n : Nat} (hn : ∀ j, j < n → p j = false) : idxF p n = -1 := by
  unfold idxF
  have : (List.range n).find? p = none := by
    rw [List.find?_eq_none]
    intro x hx
    simp [hn x (by simpa using hx)]
  rw [this]
theorem idxF_spec (p : Nat → Bool) (n : Nat) : (∃ i, i < n ∧ idxF p n = i ∧ p i = true ∧ ∀ j, j < i → p j = false) ∨ (idxF p n = -1 ∧ ∀ j, j < n → p j = false) := by
  cases h : (List.range n).find? p with
  | none =>
    right
    rw [List.find?_eq_none] at h
    have hh : ∀ j, j < n → p j = false := fun j hj => by simpa using h j (by simpa using hj)
    exact ⟨idxF_none hh, hh⟩
  | some i =>
    left
    rw [List.find?_range_eq_some] at h
    obtain ⟨h1, h2, h3⟩ := h
    have h3' : ∀ j, j < i → p j = false := fun j hj => by simpa using h3 j hj
    exact ⟨i, by simpa using h2, idxF_some (by simpa using h2) h1 h3', h1, h3'⟩
theorem all_succ {p : Nat → Prop} {k : Nat} (h : ∀ j, j < k → p j) (hk : p k) : ∀ j, j < k + 1 → p j := fun j hj => by
  rcases Nat.lt_or_ge j k with h1 | h1
  · exact h j h1
  · obtain rfl : j = k := by omega
    exact hk
theorem src_one {H : Hp} {sz : Nat} {x : Bool} {f : Nat → List AV} {cs : List AV} (hf : f 0 = cs) (h : cs.length = sz ∧ ones cs = true) : Src H sz (.sl x sz 1 f) [cs] :=
  src_sl rfl (fun i hi => by obtain rfl : i = 0 := by omega
                             exact hf.symm) (fun i hi => by obtain rfl : i = 0 := by omega
                                                            rw [hf]; exact h)
theorem len_rep {L : List (List AV)} {z : List AV} {sz i k : Nat} (h : ∀ y ∈ L, y.length = sz) (hz : z.length = sz) : ∀ y ∈ L.take i ++ List.replicate k z, y.length = sz := fun y hy => by
  rcases List.mem_append.1 hy with h1 | h1
  · exact h y (List.mem_of_mem_take h1)
  · rw [List.eq_of_mem_replicate h1]; exact hz
theorem lput_len {L ys : List (List AV)} {i : Nat} (h : i + ys.length ≤ L.length) : (lput L i ys).length = L.length := by simp [lput]; omega
theorem lput_all {p : List AV → Prop} {L ys : List (List AV)} {i : Nat} (h : ∀ y ∈ L, p y) (h' : ∀ y ∈ ys, p y) : ∀ y ∈ lput L i ys, p y := fun y hy => by
  unfold lput at hy
  rcases List.mem_append.1 hy with hy | hy
  · rcases List.mem_append.1 hy with hy | hy
    · exact h y (List.mem_of_mem_take hy)
    · exact h' y hy
  · exact h y (List.mem_of_mem_drop hy)
/-- An element put between, into a new row. -/
theorem lput_grow {css : List (List AV)} {z x : List AV} {i n : Nat} (hn : css.length = n) (hi : i < n) : lput (lput (css.take i ++ List.replicate (n + 1 - i) z) i [x]) (i + 1) (css.drop i) = css.take i ++ [x] ++ css.drop i := by
  obtain ⟨k, rfl⟩ : ∃ k, n = i + k := ⟨n - i, by omega⟩
  have h1 : (css.take i).length = i := by simp; omega
  have h2 : (css.drop i).length = k := by simp; omega
  generalize css.take i = A at *
  generalize css.drop i = B at *
  subst h1
  have e1 : lput (A ++ List.replicate (A.length + k + 1 - A.length) z) A.length [x] = (A ++ [x]) ++ List.replicate k z := by
    simp only [lput, List.take_left, List.length_singleton]
    rw [List.drop_append, List.drop_of_length_le (by omega)]
    simp only [List.nil_append, List.drop_replicate]
    congr 2
    omega
  rw [e1]
  have h3 : (A ++ [x]).length = A.length + 1 := by simp
  simp only [lput, ← h3, List.take_left]
  rw [List.drop_append, List.drop_of_length_le (by omega), List.drop_of_length_le (by simp; omega)]
  simp
/-- An element put between, in place. -/
theorem lput_move {css : List (List AV)} {x : List AV} {i n : Nat} (hn : css.length = n) (hi : i < n) : lput (lput css (i + 1) (css.drop i)) i [x] = css.take i ++ [x] ++ css.drop i := by
  have h1 : (css.take i).length = i := by simp; omega
  have h2 : css = css.take i ++ css.drop i := (List.take_append_drop i css).symm
  have h3 : (css.drop i).length = n - i := by simp; omega
  obtain ⟨y, B, hB⟩ : ∃ y B, css.drop i = y :: B := by
    cases e : css.drop i with
    | nil => rw [e] at h3; simp at h3; omega
    | cons y B => exact ⟨y, B, rfl⟩
  generalize css.take i = A at *
  rw [hB] at h2 ⊢
  subst h2 h1
  have h4 : (A ++ [y]).length = A.length + 1 := by simp
  have e1 : lput (A ++ y :: B) (A.length + 1) (y :: B) = A ++ [y] ++ (y :: B) := by
    simp only [lput]
    rw [show A ++ y :: B = (A ++ [y]) ++ B by simp, ← h4, List.take_left, List.drop_of_length_le (by simp)]
    simp
  rw [e1]
  simp only [lput]
  rw [show A ++ [y] ++ y :: B = A ++ ([y] ++ y :: B) by simp, List.take_left, List.length_singleton, List.drop_append, List.drop_of_length_le (by omega)]
  simp
theorem ins_all {p : List AV → Prop} {L : List (List AV)} {x : List AV} {i : Nat} (h : ∀ y ∈ L, p y) (hx : p x) : ∀ y ∈ L.take i ++ [x] ++ L.drop i, p y := fun y hy => by
  rcases List.mem_append.1 hy with hy | hy
  · rcases List.mem_append.1 hy with hy | hy
    · exact h y (List.mem_of_mem_take hy)
    · rw [List.mem_singleton.1 hy]; exact hx
  · exact h y (List.mem_of_mem_drop hy)
/-- A row beyond those of the caller written anew. -/
theorem put_own {A B : Hp} (h : A.Sub B) {b : Nat} (hb : A b = none) (r : Row) : A.Sub (B.put b r) := h.put r hb
/-- Of a row fewer cells are known. -/
theorem rle_cut {H : Hp} {b S n : Nat} {e : TypeId} {cs : List AV} (a : AV) : RLe a (H.put b ⟨e, cs, S⟩) a (H.put b ⟨e, cs.take n, S⟩) := fun w v h1 h2 => by
  have ex : Ext w (H.put b ⟨e, cs, S⟩) w (H.put b ⟨e, cs.take n, S⟩) := ⟨rfl, rfl, rfl, Nat.le_refl _, fun c _ hn => ⟨rfl, by rw [Hp.put_none] at *; exact hn⟩⟩
  refine ⟨fun c r hc => ?_, h2.ext ex, ex⟩
  by_cases hcb : c = b
  · subst hcb
    rw [Hp.put_same] at hc
    cases hc
    obtain ⟨cur, hh, hs, hl, hr⟩ := h1 c _ (Hp.put_same _ _ _)
    refine ⟨cur, hh, hs, by simp only [List.length_take] at *; omega, fun i a v ha hv => (hr i a v ?_ hv).ext ex⟩
    rw [List.getElem?_take] at ha
    split at ha
    · exact ha
    · cases ha
  · rw [Hp.put_ne _ _ hcb] at hc
    obtain ⟨cur, hh, hs, hl, hr⟩ := h1 c r (by rw [Hp.put_ne _ _ hcb]; exact hc)
    exact ⟨cur, hh, hs, hl, fun i a v ha hv => (hr i a v ha hv).ext ex⟩
/-- A row of one's own, given up where it lies in a slot. -/
theorem fle_freeze {F : List AV} {H H' : Hp} {i : Nat} {a a' : AV} (hi : F[i]? = some a) (h : RLe a H a' H') : FLe F H (F.set i a') H' := fun w tm h1 h2 => by
  have hlt : i < F.length := (List.getElem?_eq_some_iff.1 hi).1
  have hlt' : i < tm.size := by rw [← h2.1]; exact hlt
  obtain ⟨g1, g2, g3⟩ := h w tm[i] h1 (h2.2 i a _ hi (Array.getElem?_eq_getElem hlt'))
  refine ⟨g1, ⟨by simpa using h2.1, fun j b v hb hv => ?_⟩, g3⟩
  rw [List.getElem?_set] at hb
  split at hb
  · rename_i e
    subst e
    cases hb
    rw [Array.getElem?_eq_getElem hlt'] at hv
    cases hv
    exact g2
  · exact (h2.2 j b v hb hv).ext g3
end Go.Fc

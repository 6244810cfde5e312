/- What is unlike in two views: the program's, and the laws' views. The laws of diff: what they share. No conditions. -/
import Derived.Test.YtflopjbjlbkgnaaDoorDf6
import Derived.Test.YtflopjbjlbkgnaaDoorGdQ
set_option linter.all false
namespace Go.Gd
open Go
/-- The cells of a variable of one's own are others. -/
theorem own_cells {w : NW} {H : Hp} (r : RelW w H) {j : Nat} {t : TypeId} {cs cs' : List AV} (hj : H.get j = some (.var t cs)) (hl : cs'.length = cs.length) (h : ∀ (k : Nat) a a' v, cs[k]? = some a → cs'[k]? = some a' → RelV w a v → RelV w a' v) : RelW w (H.put j (.var t cs')) ∧ Ext w H w (H.put j (.var t cs')) := by
  have ex : Ext w H w (H.put j (.var t cs')) := { ExtQ.refl _ w with base := rfl }
  refine ⟨{ rows := fun i s hi => ?_, dom := fun i m z hz => ?_, inj := r.inj, own := r.own, fin := r.fin, glob := r.glob.keep ex.toKeep }, ex⟩
  · rw [Hp.get_put] at hi
    split at hi
    · rename_i e; subst e; cases hi
      obtain ⟨h1, z, h2, h3⟩ := r.rows _ _ hj
      refine ⟨trivial, z, h2, ?_⟩
      cases z with
      | nil => obtain ⟨e, sz, h4⟩ := h3; cases h4
      | «at» b u s =>
        obtain ⟨g1, cur, g2, ⟨g3, g4⟩, g5⟩ := h3
        refine ⟨g1, cur, g2, ⟨g3, by show cs'.length ≤ u; rw [hl]; exact g4⟩, fun k a v ha hv => ?_⟩
        have ha : cs'[k]? = some a := ha
        have hk : k < cs.length := by rw [← hl]; exact (List.getElem?_eq_some_iff.1 ha).1
        exact h k cs[k] a v (List.getElem?_eq_getElem hk) ha (g5 k cs[k] v (List.getElem?_eq_getElem hk) hv)
    · exact r.rows i s hi
  · obtain ⟨s, h1, h2⟩ := r.dom i m z hz
    rw [Hp.get_put]
    split
    · rename_i e; subst e
      rw [hj] at h1; cases h1
      exact ⟨_, rfl, h2⟩
    · exact ⟨s, h1, h2⟩
/-- A field that is nothing, as a row of one's own. -/
theorem FLe.nilC {F : List AV} {H : Hp} (i j k : Nat) (e : TypeId) (sz : Nat) {t : TypeId} {cs : List AV} (hi : H.get i = none) (h0 : 0 < sz) (hj : H.get j = some (.var t cs)) (hk : cs[k]? = some (.raw (.slice none 0 0))) : FLe F H F ((H.put i (.vec e sz [])).put j (.var t (cs.set k (.rs i 0 sz 0)))) := fun w tm h1 h2 => by
  obtain ⟨a, b⟩ := own_nil h1 hi e h0
  have hij : j ≠ i := fun e => by subst e; rw [hi] at hj; cases hj
  obtain ⟨a', b'⟩ := own_cells (cs' := cs.set k (.rs i 0 sz 0)) a (j := j) (t := t) (cs := cs) (by rw [Hp.get_put, if_neg hij]; exact hj) (by simp) fun n x x' v hx hx' hv => by
    rw [List.getElem?_set] at hx'
    by_cases hn : k = n
    · subst hn
      rw [if_pos rfl] at hx'
      split at hx'
      · cases hx'
        rw [hk] at hx
        cases hx
        cases hv
        exact .rs0 _ _ _ _ (NW.name_same _ _ _ _)
      · cases hx'
    · rw [if_neg hn, hx] at hx'
      cases hx'
      exact hv
  exact ⟨w.name i 0 .nil, rfl, a', h2.ext b, (b.trans b').toB⟩
end Go.Gd
namespace Go.Proofs.YtflopjbjlbkgnaaDoor
open Go Go.Gd
set_option maxHeartbeats 4000000
set_option maxRecDepth 10000
theorem of_len (a b : GView) (ha : DvOk a) (hb : DvOk b) : (diffL a b).length ≤ 10000000 := by
  have h1 := manyC_len a b ha hb (max a.calls.length b.calls.length)
  have h2 := ha.calls
  have h3 := hb.calls
  have h4 := ha.outs
  have h5 := hb.outs
  have h6 := putL_len (⟨#[105, 110, 32]⟩ : ByteArray) (itoaB a.in_) (itoaB b.in_)
  unfold diffL outL
  rw [List.length_append, List.length_append, List.length_append, List.length_append, List.length_map, List.length_map, List.length_drop, List.length_drop]
  have h7 : (if a.status ≠ b.status ∨ a.trap ≠ b.trap then [standW a.status a.trap ++ (⟨#[32, 124, 32]⟩ : ByteArray) ++ standW b.status b.trap] else []).length ≤ 1 := by split <;> simp
  omega
theorem Of_c (a b : GView) (ha : DvOk a) (hb : DvOk b) : PCall Tryd.prog 8 [.agg (eGView a), .agg (eGView b)] (slOf eS 1 (diffL a b)) := by
  have a1 := ha.calls
  have b1 := hb.calls
  have a2 := ha.outs
  have b2 := hb.outs
  have i1 := itoa_c a.in_ ha.in_
  have i2 := itoa_c b.in_ hb.in_
  have z1 := itoa_size ha.in_
  have z2 := itoa_size hb.in_
  have s1 := stands_c a ha.st0 ha.st3 ha.trap
  have s2 := stands_c b hb.st0 hb.st3 hb.trap
  have y1 := stand_sz a.status a.trap ha.trap
  have y2 := stand_sz b.status b.trap hb.trap
  generalize hR : diffL a b = R
  unfold diffL at hR
  refine entP Tryd.func8 Tryd.ntmps8 ?_
  (repeat' (first
    | refine awp_seq_k fun K hK => ?_
    | refine wkA ?_
    | (with_reducible refine gR 8 ?_); refine dC 8 ([0, 1], [34, 37], [38]) [] [0, 1, 2, 3, 4, 5, 6, 7] mixed ?_
    | (with_reducible refine gR 10 ?_); refine dC 10 ([], [57, 60], []) [] [0, 1, 2, 3, 4, 5, 6, 7, 8, 9, 10, 11, 12, 13, 14, 15] mixed ?_
    | (refine hK _ _ ?_; clear hK K)
    | (refine wcond (fun hc => ?_) (fun hc => ?_) <;> first | contradiction | (exfalso; omega) | skip)
    | refine bx 2 ?_
    | refine bx 3 ?_
    | refine bx 0 ?_
    | refine wkB ?_
    | exact True.intro
    | (clear hK K)))
  refine awp_weak (FLe.nilC 1 0 0 9 1 rfl (by decide) rfl rfl) ?_
  (refine S ?_; try exact True.intro)
  have hKo := hK; clear hK
  have hm0 : manyC a b 0 = [] := rfl
  refine awp_loop_inv (S := Nat) [(6, 1), (16, 9)] (fun k => k ≤ max a.calls.length b.calls.length) (fun k => [(16, rI k)]) (fun k => ⟨[], [(2, .var 25 (eGView a)), (3, .var 25 (eGView b)), (0, .var 41 [.rs 1 (manyC a b k).length 1 (manyC a b k).length]), (1, .vec 9 1 ((manyC a b k).map eS))]⟩) (fun k => max a.calls.length b.calls.length - k) 0 (by omega) (fle_at (by rw [hm0]; rfl) lle) ?_
  rintro k hk Kr hKr
  have hml := manyC_len a b ha hb k
  by_cases hlt : k < max a.calls.length b.calls.length
  · have hrc := call_c (manyC a b k) k a b (by omega) ha hb (by omega)
    have hsn := manyC_snoc a b k
    rw [← hsn] at hrc
    generalize hA' : manyC a b (k + 1) = A' at hrc
    generalize manyC a b k = A at *
    have hmx : max (a.calls.length : Int) (b.calls.length : Int) = ((max a.calls.length b.calls.length : Nat) : Int) := by omega
    (refine S ?_; try exact True.intro)
    (repeat' (first
    | refine awp_seq_k fun K hK => ?_
    | refine wkA ?_
    | (with_reducible refine gR 8 ?_); refine dC 8 ([0, 1], [34, 37], [38]) [] [0, 1, 2, 3, 4, 5, 6, 7] mixed ?_
    | (with_reducible refine gR 10 ?_); refine dC 10 ([], [57, 60], []) [] [0, 1, 2, 3, 4, 5, 6, 7, 8, 9, 10, 11, 12, 13, 14, 15] mixed ?_
    | (refine hK _ _ ?_; clear hK K)
    | (refine wcond (fun hc => ?_) (fun hc => ?_) <;> first | contradiction | (exfalso; omega) | skip)
    | refine cm (hrc) ?_
    | (refine hKo _ _ ?_)
    | refine wkB ?_
    | exact True.intro
    | (clear hK K)))
    refine hKr _ _ (next_mk (k + 1) (by omega) (by show max a.calls.length b.calls.length - (k + 1) < max a.calls.length b.calls.length - k; omega) (by rw [hA']) lle)
  have hke : k = max a.calls.length b.calls.length := by omega
  subst hke
  clear hm0 hlt
  generalize manyC a b (max a.calls.length b.calls.length) = M at *
  have hol : (outL a.out_ b.out_).length ≤ 2000 := by
    unfold outL
    rw [List.length_append, List.length_map, List.length_map, List.length_drop, List.length_drop]
    omega
  have hpr := printed_c M a.out_ b.out_ (by omega) a2 b2 ha.out hb.out
  have hl1 : (M ++ outL a.out_ b.out_).length ≤ 10000000 := by rw [List.length_append]; omega
  generalize M ++ outL a.out_ b.out_ = M1 at *
  have hpu := put_c M1 (⟨#[105, 110, 32]⟩ : ByteArray) (itoaB a.in_) (itoaB b.in_) (by omega) (by show 3 ≤ _; omega) (by omega) (by omega)
  have hl2 : (M1 ++ putL (⟨#[105, 110, 32]⟩ : ByteArray) (itoaB a.in_) (itoaB b.in_)).length ≤ 10000001 := by
    have := putL_len (⟨#[105, 110, 32]⟩ : ByteArray) (itoaB a.in_) (itoaB b.in_)
    rw [List.length_append]; omega
  generalize M1 ++ putL (⟨#[105, 110, 32]⟩ : ByteArray) (itoaB a.in_) (itoaB b.in_) = M2 at *
  by_cases hst : a.status ≠ b.status ∨ a.trap ≠ b.trap
  · rw [if_pos hst] at hR
    subst hR
    (refine S ?_; try exact True.intro)
    (repeat' (first
    | refine awp_seq_k fun K hK => ?_
    | refine wkA ?_
    | (with_reducible refine gR 8 ?_); refine dC 8 ([0, 1], [34, 37], [38]) [] [0, 1, 2, 3, 4, 5, 6, 7] mixed ?_
    | (with_reducible refine gR 10 ?_); refine dC 10 ([], [57, 60], []) [] [0, 1, 2, 3, 4, 5, 6, 7, 8, 9, 10, 11, 12, 13, 14, 15] mixed ?_
    | (refine hK _ _ ?_; clear hK K)
    | (refine wcond (fun hc => ?_) (fun hc => ?_) <;> first | contradiction | (exfalso; omega) | skip)
    | refine cm (hpr) ?_
    | refine cq (i1) ?_
    | refine cq (i2) ?_
    | (refine cNA hpu ?_)
    | refine cq (s1) ?_
    | refine cq (s2) ?_
    | (refine hKo _ _ ?_)
    | refine wkB ?_
    | exact True.intro
    | (clear hK K)))
    refine retv [.tmp 4] ?_
    refine VTo.row (e := 9) _ rfl ?_ ?_
    · (simp only [List.append_nil, List.map_append]; try rfl)
    · (simp only [List.append_nil, List.length_append]; try rfl)
  · rw [if_neg hst, List.append_nil] at hR
    subst hR
    (refine S ?_; try exact True.intro)
    (repeat' (first
    | refine awp_seq_k fun K hK => ?_
    | refine wkA ?_
    | (with_reducible refine gR 8 ?_); refine dC 8 ([0, 1], [34, 37], [38]) [] [0, 1, 2, 3, 4, 5, 6, 7] mixed ?_
    | (with_reducible refine gR 10 ?_); refine dC 10 ([], [57, 60], []) [] [0, 1, 2, 3, 4, 5, 6, 7, 8, 9, 10, 11, 12, 13, 14, 15] mixed ?_
    | (refine hK _ _ ?_; clear hK K)
    | (refine wcond (fun hc => ?_) (fun hc => ?_) <;> first | contradiction | (exfalso; omega) | skip)
    | refine cm (hpr) ?_
    | refine cq (i1) ?_
    | refine cq (i2) ?_
    | (refine cNA hpu ?_)
    | (refine hKo _ _ ?_)
    | refine wkB ?_
    | exact True.intro
    | (clear hK K)))
    refine retv [.tmp 4] ?_
    exact VTo.row (e := 9) M2 rfl rfl rfl
end Go.Proofs.YtflopjbjlbkgnaaDoor

namespace Go.Gd
open Go
theorem and3 (x : Int) : 0 ≤ bitsOf .and .i64 x 3 ∧ bitsOf .and .i64 x 3 ≤ 3 := by
  have h : ((BitVec.ofInt 64 x) &&& (BitVec.ofInt 64 3)).toNat ≤ 3 := by
    rw [BitVec.toNat_and]
    exact Nat.le_trans Nat.and_le_right (by decide)
  show 0 ≤ IntKind.i64.wrap _ ∧ IntKind.i64.wrap _ ≤ 3
  rw [wrap_in (by
    show _ ≤ (((BitVec.ofInt 64 x) &&& (BitVec.ofInt 64 3)).toNat : Int) ∧ (((BitVec.ofInt 64 x) &&& (BitVec.ofInt 64 3)).toNat : Int) ≤ _
    omega)]
  show 0 ≤ (((BitVec.ofInt 64 x) &&& (BitVec.ofInt 64 3)).toNat : Int) ∧ (((BitVec.ofInt 64 x) &&& (BitVec.ofInt 64 3)).toNat : Int) ≤ 3
  omega
/-- A literal of one, as it reads. -/
theorem Sub.one {sz : Nat} {cs ds d d' : List AV} (h : SubL cs ds) (hn : ds.length = sz) : Sub (.sl true sz [cs] d) (.sl false sz [ds] d') := fun w v hv => by
  obtain ⟨hlen, hg⟩ := h.get
  cases hv with
  | sl x sz css a c vs hn0 hc hx hsz hb hH hcell hr =>
    refine .sl false sz [ds] a c vs (by simp) hc (fun e => by cases e) (fun x hx => by rw [List.mem_singleton] at hx; subst hx; exact hn) hb hH hcell (fun i j u hi hu => ?_)
    have hi0 : i = 0 := by simpa using hi
    subst hi0
    have hu : ds[j]? = some u := hu
    have hj : j < cs.length := by rw [hlen]; exact (List.getElem?_eq_some_iff.1 hu).1
    exact hg j cs[j] u (List.getElem?_eq_getElem hj) hu w.bare _ (hr 0 j cs[j] (by simp) (List.getElem?_eq_getElem hj))
theorem Sub.agg {cs ds : List AV} (h : SubL cs ds) : Sub (.agg cs) (.agg ds) := fun w v hv => by
  obtain ⟨hlen, hg⟩ := h.get
  cases hv with
  | agg _ vs hl hr =>
    refine .agg ds vs (hlen.symm.trans hl) fun i a v ha hv => ?_
    have hj : i < cs.length := by rw [hlen]; exact (List.getElem?_eq_some_iff.1 ha).1
    exact hg i cs[i] a (List.getElem?_eq_getElem hj) ha w v (hr i cs[i] v (List.getElem?_eq_getElem hj) hv)
/-- A result that says less. -/
theorem pcall_res {P : Program} {f : FuncId} {args : List AV} {r r' : AV} (hc : PCall P f args r) (h : Sub r r') : PCall P f args r' := fun w vs h1 h2 => by
  refine (hc w vs h1 h2).mono ?_
  rintro e W ⟨v, r0, H', w', e0, e1, ⟨rfl, e2⟩, g1, g2, g3⟩
  exact ⟨v, r', H', w', e0, e1, ⟨rfl, e2⟩, g1, h _ _ g2, g3⟩
@[go_sem] theorem eGView_drop5 (v : GView) : (eGView v).drop 5 = [] := (rfl)
attribute [go_sem] List.append_nil
def cutT (s : ByteArray) : ByteArray := if 12 < s.size then s.extract 0 12 else s
theorem cut_size (s : ByteArray) : (cutT s).size ≤ 12 := by
  unfold cutT
  split
  · rw [ByteArray.size_extract]; omega
  · omega
def cutX (x : GShown) : GShown := ⟨cutT x.name, cutT x.text⟩
def cutC (c : GSeen) : GSeen := ⟨cutT c.name, c.line, (c.vars.take 6).map cutX⟩
def viewsV (v : GView) : GView := ⟨(v.calls.take 5).map cutC, (v.out_.take 6).map cutT, v.in_, bitsOf .and .i64 v.status 3, v.trap⟩
def mainV (t : ByteArray) : GView := ⟨[⟨(⟨#[109, 97, 105, 110]⟩ : ByteArray), 2, [⟨(⟨#[97]⟩ : ByteArray), t⟩]⟩], [], 0, 0, 0⟩
theorem take_end {α : Type} {l : List α} {i n : Nat} (hi : i ≤ l.length) (hn : i ≤ n) (h : ¬ (i < l.length ∧ i < n)) : l.take i = l.take n := by
  by_cases e : i = n
  · rw [e]
  · rw [List.take_of_length_le (by omega), List.take_of_length_le (by omega)]
end Go.Gd
namespace Go.Proofs.YtflopjbjlbkgnaaDoor
open Go Go.Gd
set_option maxHeartbeats 4000000
set_option maxRecDepth 10000
theorem text_c (s : ByteArray) : PCall Tryd.prog 10 [rS s] (rS (cutT s)) := by
  refine entP Tryd.func10 Tryd.ntmps10 ?_
  (repeat' (first
    | refine awp_seq_k fun K hK => ?_
    | refine wkA ?_
    | (refine hK _ _ ?_; clear hK K)
    | (refine wcond (fun hc => ?_) (fun hc => ?_) <;> first | contradiction | (exfalso; omega) | skip)
    | refine wkB ?_
    | exact True.intro
    | (clear hK K)))
  · (refine retd [.tmp 2] ?_; try simp only [go_sem])
    unfold cutT
    rw [if_pos (by omega)]
  · (refine retd [.tmp 2] ?_; try simp only [go_sem])
    unfold cutT
    rw [if_neg (by omega)]
theorem main_l (t : ByteArray) : PCall Tryd.prog 11 [rS t] (.agg [.sl true 3 [[rS (⟨#[109, 97, 105, 110]⟩ : ByteArray), rI 2, .sl true 2 [[rS (⟨#[97]⟩ : ByteArray), rS t]] []]] [], .raw (.slice none 0 0), rI 0, rI 0, rI 0]) := by
  refine entP Tryd.func11 Tryd.ntmps11 ?_
  (repeat' (first
    | refine awp_seq_k fun K hK => ?_
    | refine wkA ?_
    | (refine hK _ _ ?_; clear hK K)
    | (refine wcond (fun hc => ?_) (fun hc => ?_) <;> first | contradiction | (exfalso; omega) | skip)
    | refine al 0 ?_
    | refine wkB ?_
    | exact True.intro
    | (clear hK K)))
  (refine retd [.cell 2 25] ?_; try simp only [go_sem])
theorem main_c (t : ByteArray) : PCall Tryd.prog 11 [rS t] (.agg (eGView (mainV t))) := by
  refine pcall_res (main_l t) (Sub.agg ⟨Sub.one (ds := eGSeen ⟨(⟨#[109, 97, 105, 110]⟩ : ByteArray), 2, [⟨(⟨#[97]⟩ : ByteArray), t⟩]⟩) ⟨Sub.refl _, Sub.refl _, Sub.one (ds := eGShown ⟨(⟨#[97]⟩ : ByteArray), t⟩) ⟨Sub.refl _, Sub.refl _, trivial⟩ rfl, trivial⟩ rfl, Sub.nil _ _, Sub.refl _, Sub.refl _, Sub.refl _, trivial⟩)
theorem views_c (v : GView) : PCall Tryd.prog 6 [.agg (eGView v)] (.agg (eGView (viewsV v))) := by
  refine entP Tryd.func6 Tryd.ntmps6 ?_
  (repeat' (first
    | refine awp_seq_k fun K hK => ?_
    | refine wkA ?_
    | (with_reducible refine gR 8 ?_); refine dC 8 ([], [], [32]) [14] [0, 1, 2, 3, 4, 5, 7, 8, 9, 10, 11, 12, 6, 13, 14, 15] mixed ?_
    | (with_reducible refine gR 12 ?_); refine dC 12 ([], [67, 78], []) [] [0, 1, 2, 3, 4, 5, 6, 7, 8, 9, 10, 11, 12, 13, 14, 15, 16, 17, 18, 19, 20, 21, 22, 23, 24, 25, 26, 27, 28] mixed ?_
    | (with_reducible refine gR 17 ?_); refine dC 17 ([], [107], []) [] [0, 1, 2, 3, 4, 5, 6, 7, 8, 9, 10, 11] mixed ?_
    | (refine hK _ _ ?_; clear hK K)
    | (refine wcond (fun hc => ?_) (fun hc => ?_) <;> first | contradiction | (exfalso; omega) | skip)
    | refine bx 0 ?_
    | refine al 1 ?_
    | refine al 2 ?_
    | refine wkB ?_
    | exact True.intro
    | (clear hK K)))
  refine awp_weak (FLe.nilC 4 2 0 36 3 rfl (by decide) rfl rfl) ?_
  refine awp_weak (FLe.nilC 5 2 1 9 1 rfl (by decide) rfl rfl) ?_
  (refine S ?_; try exact True.intro)
  have hKo := hK; clear hK
  refine awp_loop_inv (S := Nat) [(4, 3), (15, 74)] (fun i => i ≤ v.calls.length ∧ i ≤ 5) (fun i => [(4, rI i)]) (fun i => ⟨[], [(0, .var 25 (eGView v)), (1, .var 25 [.raw (.slice none 0 0), .raw (.slice none 0 0), rI 0, rI 0, rI 0]), (2, .var 25 [.rs 4 i 3 i, .rs 5 0 1 0, rI v.in_, rI (bitsOf .and .i64 v.status 3), rI v.trap]), (4, .vec 36 3 (((v.calls.take i).map cutC).map eGSeen)), (5, .vec 9 1 [])]⟩) (fun i => 5 - i) 0 ⟨by omega, by omega⟩ (fle_at rfl lle) ?_
  rintro i ⟨hi1, hi2⟩ Kr hKr
  have hil : ((v.calls.take i).map cutC).length = i := by simp; omega
  by_cases hgo : (i : Int) < v.calls.length ∧ (i : Int) < 5
  · obtain ⟨g1, g2⟩ := hgo
    have hlt : i < v.calls.length := by omega
    have htk := take_nth hlt
    generalize hcd : nth v.calls i = c at *
    have ht1 := text_c c.name
    have hd0 : decide ((i : Int) < 5) = true := decide_eq_true g2
    (refine S ?_; try exact True.intro)
    (have W := hcd; repeat' (first
    | refine awp_seq_k fun K hK => ?_
    | refine wkA ?_
    | (with_reducible refine gR 8 ?_); refine dC 8 ([], [], [32]) [14] [0, 1, 2, 3, 4, 5, 7, 8, 9, 10, 11, 12, 6, 13, 14, 15] mixed ?_
    | (with_reducible refine gR 12 ?_); refine dC 12 ([], [67, 78], []) [] [0, 1, 2, 3, 4, 5, 6, 7, 8, 9, 10, 11, 12, 13, 14, 15, 16, 17, 18, 19, 20, 21, 22, 23, 24, 25, 26, 27, 28] mixed ?_
    | (with_reducible refine gR 17 ?_); refine dC 17 ([], [107], []) [] [0, 1, 2, 3, 4, 5, 6, 7, 8, 9, 10, 11] mixed ?_
    | (refine hK _ _ ?_; clear hK K)
    | (refine wcond (fun hc => ?_) (fun hc => ?_) <;> first | contradiction | (exfalso; omega) | skip)
    | (refine cN ht1 ?_)
    | refine al 3 ?_
    | (refine hKo _ _ ?_)
    | refine wkB ?_
    | exact True.intro
    | (clear hK K))); all_goals (try clear W)
    have hKb := hK; clear hK
    have hKa := hK; clear hK
    refine awp_weak (FLe.nilC 6 3 2 38 2 rfl (by decide) rfl rfl) ?_
    (refine S ?_; try exact True.intro)
    refine awp_loop_inv (S := Nat) [(6, 1), (40, 43)] (fun k => k ≤ c.vars.length ∧ k ≤ 6) (fun k => [(6, rI k)]) (fun k => ⟨[], [(0, .var 25 (eGView v)), (1, .var 25 [.raw (.slice none 0 0), .raw (.slice none 0 0), rI 0, rI 0, rI 0]), (2, .var 25 [.rs 4 i 3 i, .rs 5 0 1 0, rI v.in_, rI (bitsOf .and .i64 v.status 3), rI v.trap]), (4, .vec 36 3 (((v.calls.take i).map cutC).map eGSeen)), (5, .vec 9 1 []), (3, .var 36 [rS (cutT c.name), rI c.line, .rs 6 k 2 k]), (6, .vec 38 2 (((c.vars.take k).map cutX).map eGShown))]⟩) (fun k => 6 - k) 0 ⟨by omega, by omega⟩ (fle_at rfl lle) ?_
    rintro k ⟨hk1, hk2⟩ Ks hKs
    have hkl : ((c.vars.take k).map cutX).length = k := by simp; omega
    by_cases hg2 : (k : Int) < c.vars.length ∧ (k : Int) < 6
    · obtain ⟨g3, g4⟩ := hg2
      have hlt2 : k < c.vars.length := by omega
      have htk2 := take_nth hlt2
      generalize hxd : nth c.vars k = x at *
      have hx1 := text_c x.name
      have hx2 := text_c x.text
      (refine S ?_; try exact True.intro)
      (have W := And.intro hcd (And.intro hxd (hkl)); repeat' (first
    | refine awp_seq_k fun K hK => ?_
    | refine wkA ?_
    | (with_reducible refine gR 8 ?_); refine dC 8 ([], [], [32]) [14] [0, 1, 2, 3, 4, 5, 7, 8, 9, 10, 11, 12, 6, 13, 14, 15] mixed ?_
    | (with_reducible refine gR 12 ?_); refine dC 12 ([], [67, 78], []) [] [0, 1, 2, 3, 4, 5, 6, 7, 8, 9, 10, 11, 12, 13, 14, 15, 16, 17, 18, 19, 20, 21, 22, 23, 24, 25, 26, 27, 28] mixed ?_
    | (with_reducible refine gR 17 ?_); refine dC 17 ([], [107], []) [] [0, 1, 2, 3, 4, 5, 6, 7, 8, 9, 10, 11] mixed ?_
    | (refine hK _ _ ?_; clear hK K)
    | (refine wcond (fun hc => ?_) (fun hc => ?_) <;> first | contradiction | (exfalso; omega) | skip)
    | refine cq (hx1) ?_
    | refine cq (hx2) ?_
    | (refine hKb _ _ ?_)
    | refine wkB ?_
    | exact True.intro
    | (clear hK K))); all_goals (try clear W)
      refine hKs _ _ (next_mk (k + 1) ⟨by omega, by omega⟩ (by show 6 - (k + 1) < 6 - k; omega) (by rw [htk2]; simp only [List.map_append]; rfl) lle)
    · have hend := take_end (l := c.vars) (n := 6) hk1 hk2 (fun h => hg2 ⟨by omega, by omega⟩)
      have hcut : cutC c = ⟨cutT c.name, c.line, (c.vars.take k).map cutX⟩ := by unfold cutC; rw [hend]
      (refine S ?_; try exact True.intro)
      (have W := And.intro hcd (And.intro hil (hkl)); repeat' (first
    | refine awp_thawC (id := 13) [6] 3 [rS (cutT c.name), rI c.line, slOf eGShown 2 ((c.vars.take k).map cutX)] [] [] ?_
    | refine awp_seq_k fun K hK => ?_
    | refine wkA ?_
    | (with_reducible refine gR 8 ?_); refine dC 8 ([], [], [32]) [14] [0, 1, 2, 3, 4, 5, 7, 8, 9, 10, 11, 12, 6, 13, 14, 15] mixed ?_
    | (with_reducible refine gR 12 ?_); refine dC 12 ([], [67, 78], []) [] [0, 1, 2, 3, 4, 5, 6, 7, 8, 9, 10, 11, 12, 13, 14, 15, 16, 17, 18, 19, 20, 21, 22, 23, 24, 25, 26, 27, 28] mixed ?_
    | (with_reducible refine gR 17 ?_); refine dC 17 ([], [107], []) [] [0, 1, 2, 3, 4, 5, 6, 7, 8, 9, 10, 11] mixed ?_
    | (refine hK _ _ ?_; clear hK K)
    | (refine wcond (fun hc => ?_) (fun hc => ?_) <;> first | contradiction | (exfalso; omega) | skip)
    | (refine hKb _ _ ?_)
    | (refine hKa _ _ ?_)
    | refine wkB ?_
    | exact True.intro
    | (clear hK K))); all_goals (try clear W)
      refine hKr _ _ (next_drop [3] (i + 1) ⟨by omega, by omega⟩ (by show 5 - (i + 1) < 5 - i; omega) rfl Sd ?_ vtl)
      rw [htk, List.map_append, List.map_append]
      simp only [List.map_cons, List.map_nil, hcut]
      rfl
  · have hend := take_end (l := v.calls) (n := 5) hi1 hi2 (fun h => hgo ⟨by omega, by omega⟩)
    rw [hend] at hil ⊢
    (refine S ?_; try exact True.intro)
    (repeat' (first
    | refine awp_seq_k fun K hK => ?_
    | refine wkA ?_
    | (with_reducible refine gR 8 ?_); refine dC 8 ([], [], [32]) [14] [0, 1, 2, 3, 4, 5, 7, 8, 9, 10, 11, 12, 6, 13, 14, 15] mixed ?_
    | (with_reducible refine gR 12 ?_); refine dC 12 ([], [67, 78], []) [] [0, 1, 2, 3, 4, 5, 6, 7, 8, 9, 10, 11, 12, 13, 14, 15, 16, 17, 18, 19, 20, 21, 22, 23, 24, 25, 26, 27, 28] mixed ?_
    | (with_reducible refine gR 17 ?_); refine dC 17 ([], [107], []) [] [0, 1, 2, 3, 4, 5, 6, 7, 8, 9, 10, 11] mixed ?_
    | (refine hK _ _ ?_; clear hK K)
    | (refine wcond (fun hc => ?_) (fun hc => ?_) <;> first | contradiction | (exfalso; omega) | skip)
    | (refine hKo _ _ ?_)
    | refine wkB ?_
    | exact True.intro
    | (clear hK K)))
    have hKo := hK; clear hK
    refine awp_loop_inv (S := Nat) [(7, 1), (89, 22)] (fun j => j ≤ v.out_.length ∧ j ≤ 6) (fun j => [(7, rI j)]) (fun j => ⟨[], [(0, .var 25 (eGView v)), (1, .var 25 [.raw (.slice none 0 0), .raw (.slice none 0 0), rI 0, rI 0, rI 0]), (2, .var 25 [.rs 4 i 3 i, .rs 5 j 1 j, rI v.in_, rI (bitsOf .and .i64 v.status 3), rI v.trap]), (4, .vec 36 3 (((v.calls.take 5).map cutC).map eGSeen)), (5, .vec 9 1 (((v.out_.take j).map cutT).map eS))]⟩) (fun j => 6 - j) 0 ⟨by omega, by omega⟩ (fle_at rfl lle) ?_
    rintro j ⟨hj1, hj2⟩ Ks hKs
    have hjl : ((v.out_.take j).map cutT).length = j := by simp; omega
    by_cases hg2 : (j : Int) < v.out_.length ∧ (j : Int) < 6
    · obtain ⟨g3, g4⟩ := hg2
      have hlt2 : j < v.out_.length := by omega
      have htk2 := take_nth hlt2
      generalize hxd : nth v.out_ j = x at *
      have hx1 := text_c x
      (refine S ?_; try exact True.intro)
      (have W := And.intro hxd (hjl); repeat' (first
    | refine awp_seq_k fun K hK => ?_
    | refine wkA ?_
    | (with_reducible refine gR 8 ?_); refine dC 8 ([], [], [32]) [14] [0, 1, 2, 3, 4, 5, 7, 8, 9, 10, 11, 12, 6, 13, 14, 15] mixed ?_
    | (with_reducible refine gR 12 ?_); refine dC 12 ([], [67, 78], []) [] [0, 1, 2, 3, 4, 5, 6, 7, 8, 9, 10, 11, 12, 13, 14, 15, 16, 17, 18, 19, 20, 21, 22, 23, 24, 25, 26, 27, 28] mixed ?_
    | (with_reducible refine gR 17 ?_); refine dC 17 ([], [107], []) [] [0, 1, 2, 3, 4, 5, 6, 7, 8, 9, 10, 11] mixed ?_
    | (refine hK _ _ ?_; clear hK K)
    | (refine wcond (fun hc => ?_) (fun hc => ?_) <;> first | contradiction | (exfalso; omega) | skip)
    | refine cq (hx1) ?_
    | (refine hKo _ _ ?_)
    | refine wkB ?_
    | exact True.intro
    | (clear hK K))); all_goals (try clear W)
      refine hKs _ _ (next_mk (j + 1) ⟨by omega, by omega⟩ (by show 6 - (j + 1) < 6 - j; omega) (by rw [htk2]; simp only [List.map_append]; rfl) lle)
    · have hend2 := take_end (l := v.out_) (n := 6) hj1 hj2 (fun h => hg2 ⟨by omega, by omega⟩)
      (refine S ?_; try exact True.intro)
      (repeat' (first
    | refine awp_seq_k fun K hK => ?_
    | refine wkA ?_
    | (with_reducible refine gR 8 ?_); refine dC 8 ([], [], [32]) [14] [0, 1, 2, 3, 4, 5, 7, 8, 9, 10, 11, 12, 6, 13, 14, 15] mixed ?_
    | (with_reducible refine gR 12 ?_); refine dC 12 ([], [67, 78], []) [] [0, 1, 2, 3, 4, 5, 6, 7, 8, 9, 10, 11, 12, 13, 14, 15, 16, 17, 18, 19, 20, 21, 22, 23, 24, 25, 26, 27, 28] mixed ?_
    | (with_reducible refine gR 17 ?_); refine dC 17 ([], [107], []) [] [0, 1, 2, 3, 4, 5, 6, 7, 8, 9, 10, 11] mixed ?_
    | (refine hK _ _ ?_; clear hK K)
    | (refine wcond (fun hc => ?_) (fun hc => ?_) <;> first | contradiction | (exfalso; omega) | skip)
    | (refine hKo _ _ ?_)
    | refine wkB ?_
    | exact True.intro
    | (clear hK K)))
      rw [hend2] at hjl ⊢
      refine retv [.cell 2 25] ?_
      exact VToL.agg (ds := eGView (viewsV v)) ⟨VTo.row ((v.calls.take 5).map cutC) rfl rfl hil.symm, VTo.row (e := 9) ((v.out_.take 6).map cutT) rfl rfl hjl.symm, .same _ rfl, .same _ rfl, .same _ rfl, trivial⟩
theorem views_ok (v : GView) (hi : rng v.in_) (ht : rng v.trap) (hl : ∀ c ∈ v.calls, rng c.line) : DvOk (viewsV v) := by
  have h3 := and3 v.status
  refine ⟨?_, fun c hc => ?_, ?_, fun t ht => ?_, hi, h3.1, h3.2, ht⟩
  · show ((v.calls.take 5).map cutC).length ≤ _
    rw [List.length_map, List.length_take]; omega
  · obtain ⟨d, hd, rfl⟩ := List.mem_map.1 (show c ∈ (v.calls.take 5).map cutC from hc)
    have hs := cut_size d.name
    refine ⟨?_, by show (cutT d.name).size ≤ _; omega, hl d (List.mem_of_mem_take hd), fun x hx => ?_⟩
    · show ((d.vars.take 6).map cutX).length ≤ _
      rw [List.length_map, List.length_take]; omega
    · obtain ⟨y, hy, rfl⟩ := List.mem_map.1 (show x ∈ (d.vars.take 6).map cutX from hx)
      have h1 := cut_size y.name
      have h2 := cut_size y.text
      exact ⟨by show (cutT y.name).size ≤ _; omega, by show (cutT y.text).size ≤ _; omega⟩
  · show ((v.out_.take 6).map cutT).length ≤ _
    rw [List.length_map, List.length_take]; omega
  · obtain ⟨d, hd, rfl⟩ := List.mem_map.1 (show t ∈ (v.out_.take 6).map cutT from ht)
    have hs := cut_size d
    omega
theorem main_ok {t : ByteArray} (h : t.size ≤ 1000) : DvOk (mainV t) := by
  refine ⟨by show 1 ≤ 1000; omega, fun c hc => ?_, by show 0 ≤ 1000; omega, fun t ht => ?_, by show rng 0; unfold rng; decide, by show (0 : Int) ≤ 0; decide, by show (0 : Int) ≤ 3; decide, by show rng 0; unfold rng; decide⟩
  · rw [show (mainV t).calls = [⟨(⟨#[109, 97, 105, 110]⟩ : ByteArray), 2, [⟨(⟨#[97]⟩ : ByteArray), t⟩]⟩] from rfl, List.mem_singleton] at hc
    subst hc
    refine ⟨by show 1 ≤ 1000; omega, by show 4 ≤ 1000; omega, by show rng 2; unfold rng; decide, fun x hx => ?_⟩
    rw [List.mem_singleton] at hx
    subst hx
    exact ⟨by show 1 ≤ 1000; omega, h⟩
  · rw [show (mainV _).out_ = [] from rfl] at ht
    cases ht
theorem shown_a : diffL (mainV (⟨#[49]⟩ : ByteArray)) (mainV (⟨#[53]⟩ : ByteArray)) = [(⟨#[48, 32, 97, 32, 49, 32, 124, 32, 53]⟩ : ByteArray)] := by decide +kernel
theorem shown_b : diffL (mainV (⟨#[49]⟩ : ByteArray)) (mainV (⟨#[49]⟩ : ByteArray)) = [] := by decide +kernel
theorem shown_c : PCall Tryd.prog 5 [] (rB true) := by
  have m1 := main_c (⟨#[49]⟩ : ByteArray)
  have m5 := main_c (⟨#[53]⟩ : ByteArray)
  have o1 := Of_c (mainV (⟨#[49]⟩ : ByteArray)) (mainV (⟨#[53]⟩ : ByteArray)) (main_ok (by decide)) (main_ok (by decide))
  have o2 := Of_c (mainV (⟨#[49]⟩ : ByteArray)) (mainV (⟨#[49]⟩ : ByteArray)) (main_ok (by decide)) (main_ok (by decide))
  rw [shown_a] at o1
  rw [shown_b] at o2
  generalize mainV (⟨#[49]⟩ : ByteArray) = w1 at *
  generalize mainV (⟨#[53]⟩ : ByteArray) = w5 at *
  refine entP Tryd.func5 Tryd.ntmps5 ?_
  (repeat' (first
    | refine awp_seq_k fun K hK => ?_
    | refine wkA ?_
    | (refine hK _ _ ?_; clear hK K)
    | (refine wcond (fun hc => ?_) (fun hc => ?_) <;> first | contradiction | (exfalso; omega) | skip)
    | refine cp (m1) ?_
    | refine cp (m5) ?_
    | refine cp (o1) ?_
    | refine cq (m1) ?_
    | refine cq (o2) ?_
    | refine wkB ?_
    | exact True.intro
    | (clear hK K)))
  (refine retd [.tmp 0] ?_; try simp only [go_sem])
theorem diffViews_c (a b : GView) (ha : rng a.in_ ∧ rng a.trap ∧ ∀ c ∈ a.calls, rng c.line) (hb : rng b.in_ ∧ rng b.trap ∧ ∀ c ∈ b.calls, rng c.line) : PCall Tryd.prog 3 [.agg (eGView a), .agg (eGView b)] (rB true) := by
  have va := views_c a
  have vb := views_c b
  have oa := views_ok a ha.1 ha.2.1 ha.2.2
  have ob := views_ok b hb.1 hb.2.1 hb.2.2
  have h1 := Of_c _ _ oa ob
  have h2 := rOf_c _ _ oa ob
  have hl := of_len _ _ oa ob
  have h3 := texts12_c (diffL (viewsV a) (viewsV b)) (diffL (viewsV a) (viewsV b)) (by omega)
  rw [decide_eq_true rfl] at h3
  generalize diffL (viewsV a) (viewsV b) = L at *
  generalize viewsV a = va' at *
  generalize viewsV b = vb' at *
  refine entP Tryd.func3 Tryd.ntmps3 ?_
  (repeat' (first
    | refine awp_seq_k fun K hK => ?_
    | refine wkA ?_
    | (with_reducible refine gR 4 ?_); refine dC 4 ([], [15, 18, 19], []) [] [0, 1, 2, 3, 4, 5, 6, 7, 8, 9, 10] mixed ?_
    | (refine hK _ _ ?_; clear hK K)
    | (refine wcond (fun hc => ?_) (fun hc => ?_) <;> first | contradiction | (exfalso; omega) | skip)
    | refine bx 0 ?_
    | refine bx 1 ?_
    | refine cp (shown_c) ?_
    | refine cp (va) ?_
    | refine cp (vb) ?_
    | refine cq (h1) ?_
    | refine cq (h2) ?_
    | refine cq (h3) ?_
    | refine wkB ?_
    | exact True.intro
    | (clear hK K)))
  (refine retd [.tmp 4] ?_; try simp only [go_sem])
theorem pre_self : ∀ (a : List ByteArray), preN a a = a.length
  | [] => rfl
  | x :: a => by unfold preN; rw [if_pos rfl, pre_self a]; rfl
theorem pre_comm : ∀ (a b : List ByteArray), preN a b = preN b a
  | [], [] => rfl
  | [], _ :: _ => rfl
  | _ :: _, [] => rfl
  | x :: a, y :: b => by
    unfold preN
    by_cases h : x = y
    · rw [if_pos h, if_pos h.symm, pre_comm a b]
    · rw [if_neg h, if_neg (fun e => h e.symm)]
theorem pre_snoc : ∀ (a : List ByteArray) (x : ByteArray), preN a (a ++ [x]) = a.length
  | [], x => rfl
  | y :: a, x => by
    show (if y = y then preN a (a ++ [x]) + 1 else 0) = _
    rw [if_pos rfl, pre_snoc a x]; rfl
theorem lines_congr (n : Nat) (a b c d : GView) (h1 : a.calls = c.calls) (h2 : b.calls = d.calls) : callL a b n = callL c d n := by
  unfold callL linesC callS headT
  rw [h1, h2]
theorem many_congr (a b c d : GView) (h1 : a.calls = c.calls) (h2 : b.calls = d.calls) (k : Nat) : manyC a b k = manyC c d k := by
  unfold manyC
  rw [show callL a b = callL c d from funext fun n => lines_congr n a b c d h1 h2]
/-- Two views with the same calls, the other way about. -/
theorem swap_len (a b : GView) (h : b.calls = a.calls) : (diffL a b).length = (diffL b a).length := by
  unfold diffL outL putL
  rw [many_congr a b b a h.symm h, h, pre_comm b.out_ a.out_]
  simp only [List.length_append, List.length_map, List.length_drop]
  have e1 : (if itoaB a.in_ = itoaB b.in_ then [] else [lineT (⟨#[105, 110, 32]⟩ : ByteArray) (itoaB a.in_) (itoaB b.in_)]).length = (if itoaB b.in_ = itoaB a.in_ then [] else [lineT (⟨#[105, 110, 32]⟩ : ByteArray) (itoaB b.in_) (itoaB a.in_)]).length := by
    by_cases e : itoaB a.in_ = itoaB b.in_
    · rw [if_pos e, if_pos e.symm]
    · rw [if_neg e, if_neg (fun h => e h.symm)]; rfl
  have e2 : (if a.status ≠ b.status ∨ a.trap ≠ b.trap then [standW a.status a.trap ++ (⟨#[32, 124, 32]⟩ : ByteArray) ++ standW b.status b.trap] else []).length = (if b.status ≠ a.status ∨ b.trap ≠ a.trap then [standW b.status b.trap ++ (⟨#[32, 124, 32]⟩ : ByteArray) ++ standW a.status a.trap] else []).length := by
    by_cases e : a.status ≠ b.status ∨ a.trap ≠ b.trap
    · rw [if_pos e, if_pos (by rcases e with e | e; exact .inl fun h => e h.symm; exact .inr fun h => e h.symm)]; rfl
    · rw [if_neg e, if_neg (fun h => e (by rcases h with h | h; exact .inl fun h' => h h'.symm; exact .inr fun h' => h h'.symm))]
  rw [e1, e2]
  omega
theorem more_own (a c : GView) (t : ByteArray) (h : c = { a with out_ := a.out_ ++ [t] }) : diffL a c = diffL a a ++ [outB t] := by
  subst h
  have hm := many_congr a { a with out_ := a.out_ ++ [t] } a a rfl rfl (max a.calls.length a.calls.length)
  have ha : diffL a { a with out_ := a.out_ ++ [t] } = manyC a { a with out_ := a.out_ ++ [t] } (max a.calls.length a.calls.length) ++ outL a.out_ (a.out_ ++ [t]) ++ putL (⟨#[105, 110, 32]⟩ : ByteArray) (itoaB a.in_) (itoaB a.in_) ++ (if a.status ≠ a.status ∨ a.trap ≠ a.trap then [standW a.status a.trap ++ (⟨#[32, 124, 32]⟩ : ByteArray) ++ standW a.status a.trap] else []) := rfl
  have hb : diffL a a = manyC a a (max a.calls.length a.calls.length) ++ outL a.out_ a.out_ ++ putL (⟨#[105, 110, 32]⟩ : ByteArray) (itoaB a.in_) (itoaB a.in_) ++ (if a.status ≠ a.status ∨ a.trap ≠ a.trap then [standW a.status a.trap ++ (⟨#[32, 124, 32]⟩ : ByteArray) ++ standW a.status a.trap] else []) := rfl
  have hp : putL (⟨#[105, 110, 32]⟩ : ByteArray) (itoaB a.in_) (itoaB a.in_) = [] := by unfold putL; rw [if_pos rfl]
  have hn : ¬ (a.status ≠ a.status ∨ a.trap ≠ a.trap) := by simp
  rw [ha, hb, hm, hp, if_neg hn]
  unfold outL
  rw [pre_self, pre_snoc]
  simp
end Go.Proofs.YtflopjbjlbkgnaaDoor

/- The plain law of the document's parser: statements, functions, all. The document's parser: calls, right sides. The document's parser: right sides, statements that begin with a name, types. No conditions. -/
import Derived.Test.YtbpmikjlfgfbmaaGreatDoorP2
import Derived.Test.YtbpmikjlfgfbmaaGreatDoorP3
set_option linter.all false
namespace Go.Gd
open Go
def exprF (r : Rd) : Rd × Int := chainF (8 * r.rem + 8) 0 r
def argsF : Nat → Bool → Rd → List Int → Rd × List Int
  | 0, _, r, L => (r, L)
  | _ + 1, false, r, L => (r, L)
  | n + 1, true, r, L => if (exprF r).1.is (⟨#[44]⟩ : ByteArray) = true then argsF n true (exprF r).1.inc (L ++ [(exprF r).2]) else ((exprF r).1, L ++ [(exprF r).2])
def more (r : Rd) : Bool := !(r.is (⟨#[41]⟩ : ByteArray)) && decide (r.e = 0)
def callH (r : Rd) : Rd := r.name.1.must (⟨#[40]⟩ : ByteArray)
def callA (r : Rd) : Rd × List Int := argsF ((callH r).rem + 2) (more (callH r)) (callH r) []
def callF (r : Rd) : Rd × Int := ((callA r).1.must (⟨#[41]⟩ : ByteArray)).put 21 r.line 0 r.name.2 (callA r).2
def rightF (r : Rd) : Rd × Int :=
  if r.is (⟨#[105, 110, 112, 117, 116]⟩ : ByteArray) = true then r.inc.put 19 r.line 0 ⟨#[]⟩ []
  else if r.is (⟨#[110, 101, 119]⟩ : ByteArray) = true then ((exprF (r.inc.must (⟨#[40]⟩ : ByteArray))).1.must (⟨#[41]⟩ : ByteArray)).put 20 r.line 0 ⟨#[]⟩ [(exprF (r.inc.must (⟨#[40]⟩ : ByteArray))).2]
  else if r.calls = true then callF r else exprF r
/-- Up to the "]". -/
def ptA (r : Rd) : Rd × Int := exprF (r.down.must (⟨#[91]⟩ : ByteArray))
def ptB (r : Rd) : Rd × Int := exprF (((ptA r).1.must (⟨#[93]⟩ : ByteArray)).up.must (⟨#[61]⟩ : ByteArray))
def namedF (r : Rd) (ln : Int) : Rd × Int :=
  if r.calls = true then ((callF r).1.must (⟨#[59]⟩ : ByteArray)).put 13 ln 0 ⟨#[]⟩ [(callF r).2]
  else if r.name.1.is (⟨#[91]⟩ : ByteArray) = true then ((ptB r.name.1).1.must (⟨#[59]⟩ : ByteArray)).put 12 ln 0 r.name.2 [(ptA r.name.1).2, (ptB r.name.1).2]
  else ((rightF (r.name.1.must (⟨#[61]⟩ : ByteArray))).1.must (⟨#[59]⟩ : ByteArray)).put 11 ln 0 r.name.2 [(rightF (r.name.1.must (⟨#[61]⟩ : ByteArray))).2]
mutual
def blockF : Nat → Rd → Rd × Int
  | 0, r => (r, 0)
  | n + 1, r =>
    if r.is (⟨#[123]⟩ : ByteArray) = true then ((stmtsF n (r.down.must (⟨#[123]⟩ : ByteArray)) []).1.must (⟨#[125]⟩ : ByteArray)).up.put 18 r.line 0 ⟨#[]⟩ (stmtsF n (r.down.must (⟨#[123]⟩ : ByteArray)) []).2
    else (r.fails 20, 0)
def stmtsF : Nat → Rd → List Int → Rd × List Int
  | 0, r, L => (r, L)
  | n + 1, r, L => if r.e = 0 ∧ r.is (⟨#[125]⟩ : ByteArray) = false then stmtsF n (stmtF n r).1 (L ++ [(stmtF n r).2]) else (r, L)
def stmtF : Nat → Rd → Rd × Int
  | 0, r => (r, 0)
  | n + 1, r =>
    if r.word = (⟨#[108, 101, 116]⟩ : ByteArray) then ((rightF (r.inc.name.1.must (⟨#[61]⟩ : ByteArray))).1.must (⟨#[59]⟩ : ByteArray)).put 10 r.line 0 r.inc.name.2 [(rightF (r.inc.name.1.must (⟨#[61]⟩ : ByteArray))).2]
    else if r.word = (⟨#[112, 114, 105, 110, 116]⟩ : ByteArray) then ((exprF r.inc).1.must (⟨#[59]⟩ : ByteArray)).put 14 r.line 0 ⟨#[]⟩ [(exprF r.inc).2]
    else if r.word = (⟨#[119, 104, 105, 108, 101]⟩ : ByteArray) then (blockF n (exprF r.inc).1).1.put 16 r.line 0 ⟨#[]⟩ [(exprF r.inc).2, (blockF n (exprF r.inc).1).2]
    else if r.word = (⟨#[105, 102]⟩ : ByteArray) then
      (if (blockF n (exprF r.inc).1).1.is (⟨#[101, 108, 115, 101]⟩ : ByteArray) = true then (blockF n (blockF n (exprF r.inc).1).1.inc).1.put 15 r.line 0 ⟨#[]⟩ [(exprF r.inc).2, (blockF n (exprF r.inc).1).2, (blockF n (blockF n (exprF r.inc).1).1.inc).2]
      else (blockF n (exprF r.inc).1).1.put 15 r.line 0 ⟨#[]⟩ [(exprF r.inc).2, (blockF n (exprF r.inc).1).2])
    else if r.word = (⟨#[114, 101, 116, 117, 114, 110]⟩ : ByteArray) then
      (if r.inc.is (⟨#[59]⟩ : ByteArray) = true then (r.inc.must (⟨#[59]⟩ : ByteArray)).put 17 r.line 0 ⟨#[]⟩ []
      else ((exprF r.inc).1.must (⟨#[59]⟩ : ByteArray)).put 17 r.line 0 ⟨#[]⟩ [(exprF r.inc).2])
    else namedF r r.line
end
def bodyF (r : Rd) : Rd × Int := blockF (4 * r.rem + 4) r
def typeOf (w : ByteArray) : Int := if w = (⟨#[105, 110, 116]⟩ : ByteArray) then 1 else if w = (⟨#[98, 111, 111, 108]⟩ : ByteArray) then 2 else if w = (⟨#[116, 101, 120, 116]⟩ : ByteArray) then 3 else if w = (⟨#[108, 105, 115, 116]⟩ : ByteArray) then 4 else 0
def typedF (r : Rd) : Rd × Int := if typeOf r.word = 0 then (r.fails 20, 0) else (r.inc, typeOf r.word)
/-- A name, and a type. -/
def paramF (r : Rd) : Rd := (typedF r.name.1).1
def paramsF : Nat → Bool → Rd → List GParam → Rd × List GParam
  | 0, _, r, L => (r, L)
  | _ + 1, false, r, L => (r, L)
  | n + 1, true, r, L => if (paramF r).is (⟨#[44]⟩ : ByteArray) = true then paramsF n true (paramF r).inc (L ++ [⟨r.name.2, (typedF r.name.1).2⟩]) else (paramF r, L ++ [⟨r.name.2, (typedF r.name.1).2⟩])
def fnA (r : Rd) : Rd := (r.must (⟨#[102, 110]⟩ : ByteArray)).name.1.must (⟨#[40]⟩ : ByteArray)
def fnB (r : Rd) : Rd × List GParam := paramsF ((fnA r).rem + 2) (more (fnA r)) (fnA r) []
def fnC (r : Rd) : Rd := (fnB r).1.must (⟨#[41]⟩ : ByteArray)
def fnD (r : Rd) : Rd × Int := if (fnC r).is (⟨#[123]⟩ : ByteArray) = true then (fnC r, 0) else typedF (fnC r)
def fnF (r : Rd) : Rd × GFunc := ((bodyF (fnD r).1).1, ⟨(r.must (⟨#[102, 110]⟩ : ByteArray)).name.2, r.line, (fnB r).2, (fnD r).2, (bodyF (fnD r).1).2⟩)
def fnsF : Nat → Rd → List GFunc → Rd × List GFunc
  | 0, r, L => (r, L)
  | n + 1, r, L => if r.e = 0 ∧ r.kind 0 = false then fnsF n (fnF r).1 (L ++ [(fnF r).2]) else (r, L)
def rd0 (s : ByteArray) : Rd := ⟨s, (lexAll s).1, 0, [], 0, 0, 0⟩
def fnsAll (s : ByteArray) : Rd × List GFunc := fnsF ((rd0 s).rem + 1) (rd0 s) []
def bigF (t : List GNode) (L : List GFunc) : Bool := decide (300 < t.length) || decide (6 < L.length) || L.any fun f => decide (3 < f.params.length)
/-- P2.3. -/
def parseAll (s : ByteArray) : GTree × Int × Int :=
  if (lexAll s).2.2 ≠ 0 then (⟨[], []⟩, (lexAll s).2.1, (lexAll s).2.2)
  else if (fnsAll s).1.e ≠ 0 then (⟨[], []⟩, (fnsAll s).1.at_, (fnsAll s).1.e)
  else if bigF (fnsAll s).1.nodes (fnsAll s).2 = true then (⟨[], []⟩, 0, 4)
  else (⟨(fnsAll s).1.nodes, (fnsAll s).2⟩, 0, 0)
-- what is kept
theorem Rd.St.rem_lt {r r' : Rd} (s : Rd.St r r') (h : r.Inv) (he : r.e = 0) (hi : r.i + 1 ≤ r'.i) : r'.rem + 1 ≤ r.rem := by
  have h1 := s.l
  have h2 := s.lt
  have h3 := h.pos
  unfold Rd.rem
  rw [if_pos he, h1]
  split <;> omega
theorem Rd.St.rem_err {r r' : Rd} (h : r.Inv) (he : r.e = 0) (hi : r'.e ≠ 0) : r'.rem + 1 ≤ r.rem := by
  have h2 := h.lt
  have h3 := h.pos
  unfold Rd.rem
  rw [if_pos he, if_neg hi]
  omega
theorem Rd.fails_e {r : Rd} {e : Int} (he : e ≠ 0) : (r.fails e).e ≠ 0 := by
  unfold Rd.fails
  split
  · exact he
  · assumption
/-- What must be there: it is read, or there is an error. -/
theorem Rd.must_lt {r : Rd} (h : r.Inv) (he : r.e = 0) (t : ByteArray) : (r.must t).rem + 1 ≤ r.rem ∧ (r.must t).pot + 1 ≤ r.pot := by
  unfold Rd.must
  split
  · rename_i hs
    have hk := Rd.is_kind hs
    exact ⟨Rd.rem_inc h hk, by rw [(Rd.st_inc h hk.2).2]; omega⟩
  · have he' := Rd.fails_e (r := r) (e := 20) (by decide)
    refine ⟨Rd.St.rem_err h he he', ?_⟩
    unfold Rd.pot
    rw [fails_nodes, fails_l, fails_i, if_pos he, if_neg he']
    omega
theorem Rd.name_lt {r : Rd} (h : r.Inv) (he : r.e = 0) : r.name.1.rem + 1 ≤ r.rem ∧ r.name.1.pot + 1 ≤ r.pot := by
  unfold Rd.name
  split
  · rename_i hs
    have hk := Rd.kind_kind hs (by decide)
    exact ⟨Rd.rem_inc h hk, by show r.inc.pot + 1 ≤ _; rw [(Rd.st_inc h hk.2).2]; omega⟩
  · have he' := Rd.fails_e (r := r) (e := 20) (by decide)
    refine ⟨Rd.St.rem_err h he he', ?_⟩
    show (r.fails 20).pot + 1 ≤ _
    unfold Rd.pot
    rw [fails_nodes, fails_l, fails_i, if_pos he, if_neg he']
    omega
theorem Rd.down_must {r : Rd} (h : r.Inv) {t : ByteArray} (ht : r.is t = true) : (r.down.must t).rem + 1 ≤ r.rem ∧ (r.down.must t).pot + 1 ≤ r.pot := by
  obtain ⟨he, hk⟩ := Rd.is_kind ht
  obtain ⟨h1, h2, h3, h4, h5, h6⟩ := Rd.down_inv h he
  by_cases e : r.down.e = 0
  · obtain ⟨a, b⟩ := Rd.must_lt h1 e t
    have : r.down.rem ≤ r.rem := by
      unfold Rd.rem
      rw [if_pos he, if_pos e, h3, h4]
      exact Nat.le_refl _
    omega
  · have hs := Rd.st_must h1 t
    have e2 : (r.down.must t).e ≠ 0 := hs.err e
    refine ⟨Rd.St.rem_err h he e2, ?_⟩
    have : r.down.pot + 1 ≤ r.pot := by
      have hn : r.down.nodes = r.nodes := by unfold Rd.down; split <;> simp [fails_nodes]
      unfold Rd.pot
      rw [hn, h4, h3, if_pos he, if_neg e]
      omega
    have := hs.pot
    omega
theorem exprF_st {r : Rd} (h : r.Inv) : Rd.St r (exprF r).1 := (expr_st _).2.2.1 0 r h
theorem argsF_st : ∀ (n : Nat) (b : Bool) (r : Rd) (L : List Int), r.Inv → Rd.St r (argsF n b r L).1
  | 0, _, r, L, h => by unfold argsF; exact .refl h
  | n + 1, false, r, L, h => by unfold argsF; exact .refl h
  | n + 1, true, r, L, h => by
    have s1 := exprF_st h
    have h1 := s1.inv h
    unfold argsF
    split
    · rename_i hs
      have s2 := (Rd.st_inc h1 (Rd.is_kind hs).2).1
      exact (s1.trans s2).trans (argsF_st n _ _ _ (s2.inv h1))
    · exact s1
theorem callH_st {r : Rd} (h : r.Inv) : Rd.St r (callH r) := (Rd.st_name h).trans (Rd.st_must ((Rd.st_name h).inv h) _)
theorem callA_st {r : Rd} (h : r.Inv) : Rd.St r (callA r).1 := (callH_st h).trans (argsF_st _ _ _ _ ((callH_st h).inv h))
theorem callM_st {r : Rd} (h : r.Inv) : Rd.St r ((callA r).1.must (⟨#[41]⟩ : ByteArray)) := (callA_st h).trans (Rd.st_must ((callA_st h).inv h) _)
theorem Rd.calls_kind {r : Rd} (h : r.calls = true) : r.kind 3 = true := by
  unfold Rd.calls at h
  simp only [Bool.and_eq_true] at h
  exact h.1.1
theorem callF_lt {r : Rd} (h : r.Inv) (hc : r.calls = true) : Rd.St r (callF r).1 ∧ (callF r).1.pot + 2 ≤ r.pot ∧ (callF r).1.rem + 1 ≤ r.rem := by
  have hk := Rd.kind_kind (Rd.calls_kind hc) (by decide)
  have hn : r.name.1 = r.inc := by unfold Rd.name; rw [if_pos (Rd.calls_kind hc)]
  obtain ⟨s1, e1⟩ := Rd.st_inc h hk.2
  have h1 := s1.inv h
  have s2 : Rd.St r.inc ((callA r).1.must (⟨#[41]⟩ : ByteArray)) := by
    have a1 : Rd.St r.inc (callH r) := by unfold callH; rw [hn]; exact Rd.st_must h1 _
    have a2 : Rd.St r.inc (callA r).1 := a1.trans (argsF_st _ _ _ _ (a1.inv h1))
    exact a2.trans (Rd.st_must (a2.inv h1) _)
  have hp := s2.pot
  have s3 := Rd.st_put (s1.trans s2) (by omega) 21 r.line 0 r.name.2 (callA r).2
  refine ⟨s3, ?_, ?_⟩
  · show (((callA r).1.must (⟨#[41]⟩ : ByteArray)).node _).pot + 2 ≤ _
    rw [Rd.pot_node]; omega
  · refine s3.rem_lt h hk.1 ?_
    have := s2.i
    exact this
theorem rightF_st {r : Rd} (h : r.Inv) : Rd.St r (rightF r).1 := by
  unfold rightF
  split
  · rename_i hs
    obtain ⟨s1, e1⟩ := Rd.st_inc h (Rd.is_kind hs).2
    exact Rd.st_put s1 (by omega) _ _ _ _ _
  split
  · rename_i hs
    obtain ⟨s1, e1⟩ := Rd.st_inc h (Rd.is_kind hs).2
    have h1 := s1.inv h
    have s2 := Rd.st_must h1 (⟨#[40]⟩ : ByteArray)
    have s3 := exprF_st (s2.inv h1)
    have s23 := s2.trans s3
    have s4 := s23.trans (Rd.st_must (s23.inv h1) (⟨#[41]⟩ : ByteArray))
    exact Rd.st_put (s1.trans s4) (by have := s4.pot; omega) _ _ _ _ _
  split
  · rename_i hc; exact (callF_lt h hc).1
  · exact exprF_st h
theorem ptA_st {r : Rd} (h : r.Inv) (hs : r.is (⟨#[91]⟩ : ByteArray) = true) : Rd.St r.down (ptA r).1 ∧ Rd.St r ((ptA r).1.must (⟨#[93]⟩ : ByteArray)).up := by
  have he := (Rd.is_kind hs).1
  have h1 := (Rd.down_inv h he).1
  have s1 := Rd.st_must h1 (⟨#[91]⟩ : ByteArray)
  have s2 := s1.trans (exprF_st (s1.inv h1))
  exact ⟨s2, Rd.st_deep h he (s2.trans (Rd.st_must (s2.inv h1) _))⟩
theorem ptB_st {r : Rd} (h : r.Inv) (hs : r.is (⟨#[91]⟩ : ByteArray) = true) : Rd.St r (((ptA r).1.must (⟨#[93]⟩ : ByteArray)).up.must (⟨#[61]⟩ : ByteArray)) ∧ Rd.St r (ptB r).1 := by
  have s1 := (ptA_st h hs).2
  have s2 := s1.trans (Rd.st_must (s1.inv h) (⟨#[61]⟩ : ByteArray))
  exact ⟨s2, s2.trans (exprF_st (s2.inv h))⟩
theorem namedF_st {r : Rd} (h : r.Inv) (he : r.e = 0) (ln : Int) : Rd.St r (namedF r ln).1 ∧ (namedF r ln).1.rem + 1 ≤ r.rem := by
  unfold namedF
  have s0 := Rd.st_name h
  have h0 := s0.inv h
  obtain ⟨n1, n2⟩ := Rd.name_lt h he
  -- a name, and what is behind it
  have fin : ∀ (q : Rd) k L, Rd.St r.name.1 q → Rd.St r (q.put k ln 0 r.name.2 L).1 ∧ (q.put k ln 0 r.name.2 L).1.rem + 1 ≤ r.rem := fun q k L s => by
    refine ⟨Rd.st_put (s0.trans s) (by have := s.pot; omega) _ _ _ _ _, ?_⟩
    have := s.rem
    show q.rem + 1 ≤ _
    omega
  split
  · rename_i hc
    obtain ⟨s1, p1, r1⟩ := callF_lt h hc
    have s2 := Rd.st_must (s1.inv h) (⟨#[59]⟩ : ByteArray)
    refine ⟨Rd.st_put (s1.trans s2) (by have := s2.pot; omega) _ _ _ _ _, ?_⟩
    have := s2.rem
    show ((callF r).1.must (⟨#[59]⟩ : ByteArray)).rem + 1 ≤ _
    omega
  split
  · rename_i hs
    have s1 := (ptB_st h0 hs).2
    exact fin _ _ _ (s1.trans (Rd.st_must (s1.inv h0) _))
  · have s1 := Rd.st_must h0 (⟨#[61]⟩ : ByteArray)
    have s2 := s1.trans (rightF_st (s1.inv h0))
    exact fin _ _ _ (s2.trans (Rd.st_must (s2.inv h0) _))
theorem Rd.word_kind {r : Rd} {w : ByteArray} (h : r.word = w) (h0 : w ≠ ⟨#[]⟩) : r.kind 4 = true := by
  unfold Rd.word at h
  split at h
  · assumption
  · exact absurd h.symm h0
theorem stmt_st : ∀ n, (∀ r : Rd, r.Inv → Rd.St r (blockF n r).1) ∧ (∀ (r : Rd) L, r.Inv → Rd.St r (stmtsF n r L).1) ∧ (∀ r : Rd, r.Inv → r.e = 0 → 0 < n → Rd.St r (stmtF n r).1 ∧ (stmtF n r).1.rem + 1 ≤ r.rem)
  | 0 => ⟨fun r h => by unfold blockF; exact .refl h, fun r L h => by unfold stmtsF; exact .refl h, fun r h he hn => by omega⟩
  | n + 1 => by
    obtain ⟨ib, is, it⟩ := stmt_st n
    refine ⟨fun r h => ?_, fun r L h => ?_, fun r h he _ => ?_⟩
    · unfold blockF
      split
      · rename_i hs
        have he := (Rd.is_kind hs).1
        have h1 := (Rd.down_inv h he).1
        have s1 := Rd.st_must h1 (⟨#[123]⟩ : ByteArray)
        have s2 := is _ [] (s1.inv h1)
        have s12 := s1.trans s2
        have s3 := Rd.st_must (s12.inv h1) (⟨#[125]⟩ : ByteArray)
        have hp := (Rd.down_must h hs).2
        refine Rd.st_put (Rd.st_deep h he (s12.trans s3)) ?_ _ _ _ _ _
        have := s2.pot
        have := s3.pot
        show ((stmtsF n (r.down.must (⟨#[123]⟩ : ByteArray)) []).1.must (⟨#[125]⟩ : ByteArray)).pot + 1 ≤ _
        omega
      · exact Rd.st_fails h 20 (by decide)
    · unfold stmtsF
      split
      · rename_i hc
        cases n with
        | zero => unfold stmtsF stmtF; exact .refl h
        | succ n =>
          have s1 := (it r h hc.1 (by omega)).1
          exact s1.trans (is _ _ (s1.inv h))
      · exact .refl h
    · -- a word, and what is behind it
      have fin : ∀ (w : ByteArray) (q : Rd) k ln nm L, w ≠ ⟨#[]⟩ → r.word = w → (r.inc.Inv → Rd.St r.inc q) → Rd.St r (q.put k ln 0 nm L).1 ∧ (q.put k ln 0 nm L).1.rem + 1 ≤ r.rem := fun w q k ln nm L h0 hw s => by
        have hk := Rd.kind_kind (Rd.word_kind hw h0) (by decide)
        obtain ⟨s1, e1⟩ := Rd.st_inc h hk.2
        have s2 := s (s1.inv h)
        refine ⟨Rd.st_put (s1.trans s2) (by have := s2.pot; omega) _ _ _ _ _, ?_⟩
        have := s2.rem
        have := Rd.rem_inc h hk
        show q.rem + 1 ≤ _
        omega
      unfold stmtF
      split
      · rename_i hw
        refine fin _ _ _ _ _ _ (by decide) hw fun h1 => ?_
        have s1 := Rd.st_name h1
        have s2 := s1.trans (Rd.st_must (s1.inv h1) (⟨#[61]⟩ : ByteArray))
        have s3 := s2.trans (rightF_st (s2.inv h1))
        exact s3.trans (Rd.st_must (s3.inv h1) _)
      split
      · rename_i hw
        refine fin _ _ _ _ _ _ (by decide) hw fun h1 => ?_
        have s1 := exprF_st h1
        exact s1.trans (Rd.st_must (s1.inv h1) _)
      split
      · rename_i hw
        refine fin _ _ _ _ _ _ (by decide) hw fun h1 => ?_
        have s1 := exprF_st h1
        exact s1.trans (ib _ (s1.inv h1))
      split
      · rename_i hw
        split
        · rename_i hs
          refine fin _ _ _ _ _ _ (by decide) hw fun h1 => ?_
          have s1 := exprF_st h1
          have s2 := s1.trans (ib _ (s1.inv h1))
          have h2 := s2.inv h1
          have s3 := (Rd.st_inc h2 (Rd.is_kind hs).2).1
          exact (s2.trans s3).trans (ib _ (s3.inv h2))
        · refine fin _ _ _ _ _ _ (by decide) hw fun h1 => ?_
          have s1 := exprF_st h1
          exact s1.trans (ib _ (s1.inv h1))
      split
      · rename_i hw
        split
        · exact fin _ _ _ _ _ _ (by decide) hw fun h1 => Rd.st_must h1 _
        · refine fin _ _ _ _ _ _ (by decide) hw fun h1 => ?_
          have s1 := exprF_st h1
          exact s1.trans (Rd.st_must (s1.inv h1) _)
      · exact namedF_st h he _
theorem bodyF_st {r : Rd} (h : r.Inv) : Rd.St r (bodyF r).1 := (stmt_st _).1 r h
theorem typeOf_word {r : Rd} (h : typeOf r.word ≠ 0) : r.e = 0 ∧ r.tok.kind ≠ 0 := by
  refine Rd.kind_kind (k := 4) (Rd.word_kind (r := r) rfl fun e => ?_) (by decide)
  rw [e] at h
  exact h (by decide)
theorem typedF_st {r : Rd} (h : r.Inv) : Rd.St r (typedF r).1 := by
  unfold typedF
  split
  · exact Rd.st_fails h 20 (by decide)
  · rename_i ht
    exact (Rd.st_inc h (typeOf_word ht).2).1
theorem paramF_st {r : Rd} (h : r.Inv) : Rd.St r (paramF r) := (Rd.st_name h).trans (typedF_st ((Rd.st_name h).inv h))
theorem paramsF_st : ∀ (n : Nat) (b : Bool) (r : Rd) (L : List GParam), r.Inv → Rd.St r (paramsF n b r L).1
  | 0, _, r, L, h => by unfold paramsF; exact .refl h
  | n + 1, false, r, L, h => by unfold paramsF; exact .refl h
  | n + 1, true, r, L, h => by
    have s1 := paramF_st h
    have h1 := s1.inv h
    unfold paramsF
    split
    · rename_i hs
      have s2 := (Rd.st_inc h1 (Rd.is_kind hs).2).1
      exact (s1.trans s2).trans (paramsF_st n _ _ _ (s2.inv h1))
    · exact s1
theorem fnA_st {r : Rd} (h : r.Inv) : Rd.St r (r.must (⟨#[102, 110]⟩ : ByteArray)) ∧ Rd.St r (r.must (⟨#[102, 110]⟩ : ByteArray)).name.1 ∧ Rd.St r (fnA r) ∧ Rd.St (r.must (⟨#[102, 110]⟩ : ByteArray)) (fnA r) := by
  have s1 := Rd.st_must h (⟨#[102, 110]⟩ : ByteArray)
  have h1 := s1.inv h
  have s2 := Rd.st_name h1
  have s3 := s2.trans (Rd.st_must (s2.inv h1) (⟨#[40]⟩ : ByteArray))
  exact ⟨s1, s1.trans s2, s1.trans s3, s3⟩
theorem fnB_st {r : Rd} (h : r.Inv) : Rd.St (r.must (⟨#[102, 110]⟩ : ByteArray)) (fnB r).1 := (fnA_st h).2.2.2.trans (paramsF_st _ _ _ _ ((fnA_st h).2.2.1.inv h))
theorem fnC_st {r : Rd} (h : r.Inv) : Rd.St (r.must (⟨#[102, 110]⟩ : ByteArray)) (fnC r) := (fnB_st h).trans (Rd.st_must ((fnB_st h).inv ((fnA_st h).1.inv h)) _)
theorem fnD_st {r : Rd} (h : r.Inv) : Rd.St (r.must (⟨#[102, 110]⟩ : ByteArray)) (fnD r).1 := by
  unfold fnD
  split
  · exact fnC_st h
  · exact (fnC_st h).trans (typedF_st ((fnC_st h).inv ((fnA_st h).1.inv h)))
theorem fnF_st {r : Rd} (h : r.Inv) : Rd.St r (fnF r).1 ∧ (r.e = 0 → (fnF r).1.rem + 1 ≤ r.rem) := by
  have h1 := (fnA_st h).1.inv h
  have s := (fnD_st h).trans (bodyF_st ((fnD_st h).inv h1))
  refine ⟨(fnA_st h).1.trans s, fun he => ?_⟩
  have := (Rd.must_lt h he (⟨#[102, 110]⟩ : ByteArray)).1
  have : (bodyF (fnD r).1).1.rem ≤ _ := s.rem
  show (bodyF (fnD r).1).1.rem + 1 ≤ _
  omega
theorem fnsF_st : ∀ (n : Nat) (r : Rd) (L : List GFunc), r.Inv → Rd.St r (fnsF n r L).1
  | 0, r, L, h => by unfold fnsF; exact .refl h
  | n + 1, r, L, h => by
    unfold fnsF
    split
    · exact (fnF_st h).1.trans (fnsF_st n _ _ ((fnF_st h).1.inv h))
    · exact .refl h
end Go.Gd

namespace Go.Proofs.YtbpmikjlfgfbmaaGreatDoor
open Go Go.Gd
theorem exprF_c {r : Rd} (h : r.Inv) : ACalls Tryz.prog 83 [pR] (encR r) (fun v l => v = rI (exprF r).2 ∧ l = encR (exprF r).1) := expr_c _ r h (Nat.le_refl _)
set_option maxHeartbeats 4000000 in
set_option maxRecDepth 10000 in
theorem call_c {r : Rd} (h : r.Inv) : ACalls Tryz.prog 92 [pR] (encR r) (fun v l => v = rI (callF r).2 ∧ l = encR (callF r).1) := by
  have h1 := (Rd.st_name h).inv h
  have h2 := (callH_st h).inv h
  have h3 := (callA_st h).inv h
  have h4 := (callM_st h).inv h
  have hr0 : (callH r).rem ≤ 2000 := by
    have := h2.pos; have := h2.len
    unfold Rd.rem; split <;> omega
  have hm : ACalls Tryz.prog 53 [pR, rS (⟨#[40]⟩ : ByteArray)] (encR r.name.1) (fun v l => v = .tup [] ∧ l = encR (callH r)) := must_c r.name.1 _ (rok h1)
  refine entM Tryz.func92 Tryz.ntmps92 ?_
  (refine S ?_; try exact True.intro)
  (repeat' (first
    | refine awp_seq_k fun K hK => ?_
    | refine wkA ?_
    | (refine hK _ _ ?_; clear hK K)
    | (refine wcond (fun hc => ?_) (fun hc => ?_) <;> first | contradiction | (exfalso; omega) | skip)
    | refine cm (rline_c r (rok h)) ?_
    | refine cm (name_c r (rok h)) ?_
    | refine cm (hm) ?_
    | refine cm (is_c (callH r) _ (rok h2)) ?_
    | refine wkB ?_
    | exact True.intro
    | (clear hK K)))
  have hKo := hK; clear hK
  refine awp_weak (FLe.nil 2 5 3 (sz := 1) rfl (by decide) (Or.inr ⟨_, _, _, rfl, rfl⟩)) ?_
  (refine S ?_; try exact True.intro)
  refine awp_loop_inv (S := Nat × Bool × Rd × List Int) [(5, 1), (7, 2), (27, 17)] (fun s => s.2.2.1.Inv ∧ (s.2.1 = true → s.2.2.1.rem + 2 ≤ s.1) ∧ 1 ≤ s.1 ∧ s.2.2.2.length + s.1 ≤ 5000 ∧ argsF s.1 s.2.1 s.2.2.1 s.2.2.2 = callA r) (fun s => [(5, .rs 2 s.2.2.2.length 1 s.2.2.2.length), (7, rB s.2.1)]) (fun s => ⟨[0, 1], encR s.2.2.1 ++ [(2, .vec 3 1 (s.2.2.2.map eI))]⟩) (fun s => s.1) ((callH r).rem + 2, more (callH r), callH r, []) ⟨h2, fun _ => Nat.le_refl _, by (try simp only); omega, by (try simp only [List.length_nil]); omega, rfl⟩ (fle_at rfl (by simp only [go_sem, LLe, Nat.reduceAdd, AV.raw.injEq, Value.int.injEq, Value.slice.injEq, Value.pointer.injEq, AV.rs.injEq, more, List.length_nil]; try omega)) ?_
  rintro ⟨n, b, q, L⟩ ⟨hq, hn1, hn2, hn3, hA⟩ Kr hKr
  simp only at hq hn1 hn2 hn3 hA
  have hqi := hq.lt
  have hqp := hq.pos
  have hql := hq.len
  obtain ⟨n, rfl⟩ : ∃ k, n = k + 1 := ⟨n - 1, by omega⟩
  cases b with
  | false =>
    rw [argsF] at hA
    have e1 : q = (callA r).1 := by rw [← hA]
    have e2 : L = (callA r).2 := by rw [← hA]
    rw [← e1] at h4
    (refine S ?_; try exact True.intro)
    (repeat' (first
    | refine awp_seq_k fun K hK => ?_
    | refine wkA ?_
    | (refine hK _ _ ?_; clear hK K)
    | (refine wcond (fun hc => ?_) (fun hc => ?_) <;> first | contradiction | (exfalso; omega) | skip)
    | refine wkB ?_
    | exact True.intro
    | (clear hK K)))
    refine hKo _ _ ?_
    refine awp_thaw [2] 5 (slOf eI 1 L) Sd Sd vtl ?_
    (refine S ?_; try exact True.intro)
    (repeat' (first
    | refine awp_seq_k fun K hK => ?_
    | refine wkA ?_
    | (refine hK _ _ ?_; clear hK K)
    | (refine wcond (fun hc => ?_) (fun hc => ?_) <;> first | contradiction | (exfalso; omega) | skip)
    | refine cm (must_c q _ (rok hq)) ?_
    | refine cm (put_c (q.must (⟨#[41]⟩ : ByteArray)) _ _ _ _ L (rok h4)) ?_
    | refine wkB ?_
    | exact True.intro
    | (clear hK K)))
    (refine retf [.tmp 2] ?_ ?_ <;> (try simp only [go_sem]))
    · unfold callF; rw [← e1, ← e2]
    · unfold callF; rw [← e1, ← e2]
  | true =>
    have s1 := exprF_st hq
    have hx := s1.inv hq
    have hr1 := s1.rem
    have hxi := hx.lt
    have hxp := hx.pos
    have hxl := hx.len
    have hn1 := hn1 rfl
    rw [argsF] at hA
    (refine S ?_; try exact True.intro)
    (repeat' (first
    | refine awp_seq_k fun K hK => ?_
    | refine wkA ?_
    | (refine hK _ _ ?_; clear hK K)
    | (refine wcond (fun hc => ?_) (fun hc => ?_) <;> first | contradiction | (exfalso; omega) | skip)
    | refine cm (exprF_c hq) ?_
    | refine cm (is_c (exprF q).1 _ (rok hx)) ?_
    | refine wkB ?_
    | exact True.intro
    | (clear hK K)))
    · rw [if_pos hc] at hA
      have hk := Rd.is_kind hc
      have hr2 := Rd.rem_inc hx hk
      refine hKr _ _ (next_mk (n, true, (exprF q).1.inc, L ++ [(exprF q).2]) ⟨(Rd.st_inc hx hk.2).1.inv hx, fun _ => by (try simp only); omega, by (try simp only); omega, by (try simp only [List.length_append, List.length_cons, List.length_nil]); omega, hA⟩ (by (try simp only); omega) (by simp only [go_sem, encR, rdCells, List.map_append, List.map_cons, List.map_nil, List.cons_append, List.nil_append]; (try rfl)) (by simp only [go_sem, LLe, Nat.reduceAdd, AV.raw.injEq, Value.int.injEq, Value.slice.injEq, Value.pointer.injEq, AV.rs.injEq, hc, List.length_append, List.length_cons, List.length_nil]; try omega))
    · rw [if_neg (by rw [hc]; decide)] at hA
      refine hKr _ _ (next_mk (n, false, (exprF q).1, L ++ [(exprF q).2]) ⟨hx, (by intro h; cases h), by (try simp only); omega, by (try simp only [List.length_append, List.length_cons, List.length_nil]); omega, ?_⟩ (by (try simp only); omega) (by simp only [go_sem, encR, rdCells, List.map_append, List.map_cons, List.map_nil, List.cons_append, List.nil_append]; (try rfl)) (by simp only [go_sem, LLe, Nat.reduceAdd, AV.raw.injEq, Value.int.injEq, Value.slice.injEq, Value.pointer.injEq, AV.rs.injEq, hc, List.length_append, List.length_cons, List.length_nil]; try omega))
      rw [← hA]
      obtain ⟨n, rfl⟩ : ∃ k, n = k + 1 := ⟨n - 1, by omega⟩
      rw [argsF]
end Go.Proofs.YtbpmikjlfgfbmaaGreatDoor

namespace Go.Proofs.YtbpmikjlfgfbmaaGreatDoor
open Go Go.Gd
theorem calls_w {r : Rd} (h : r.Inv) : ACalls Tryz.prog 91 [pR] (encR r) (fun v l => v = rB r.calls ∧ l = encR r) := rcalls_c r (rok h) (fun hk => Rd.behind h (Rd.kind_kind hk (by decide)).2)
set_option maxHeartbeats 4000000 in
set_option maxRecDepth 10000 in
theorem right_c {r : Rd} (h : r.Inv) : ACalls Tryz.prog 82 [pR] (encR r) (fun v l => v = rI (rightF r).2 ∧ l = encR (rightF r).1) := by
  have hri := h.lt
  have hrp := h.pos
  have hrl := h.len
  have hinc : r.tok.kind ≠ 0 → r.inc.Inv := fun hk => (Rd.st_inc h hk).1.inv h
  by_cases hx : r.is (⟨#[105, 110, 112, 117, 116]⟩ : ByteArray) = true
  · have hi := hinc (Rd.is_kind hx).2
    rw [rightF, if_pos hx]
    refine entM Tryz.func82 Tryz.ntmps82 ?_
    (refine S ?_; try exact True.intro)
    (have W := hx; repeat' (first
    | refine awp_seq_k fun K hK => ?_
    | refine wkA ?_
    | (refine hK _ _ ?_; clear hK K)
    | (refine wcond (fun hc => ?_) (fun hc => ?_) <;> first | contradiction | (exfalso; omega) | skip)
    | refine cm (rline_c r (rok h)) ?_
    | refine cm (is_c r _ (rok h)) ?_
    | refine cm (put_w r.inc _ _ _ _ [] _ VLe.nil (rok hi)) ?_
    | refine wkB ?_
    | exact True.intro
    | (clear hK K))); all_goals (try clear W)
    (refine retf [.tmp 2] ?_ ?_ <;> (try simp only [go_sem]))
  rw [rightF, if_neg hx]
  have hx' : r.is (⟨#[105, 110, 112, 117, 116]⟩ : ByteArray) = false := by simpa using hx
  by_cases hy : r.is (⟨#[110, 101, 119]⟩ : ByteArray) = true
  · have hi := hinc (Rd.is_kind hy).2
    have h1 := (Rd.st_must hi (⟨#[40]⟩ : ByteArray)).inv hi
    have h2 := (exprF_st h1).inv h1
    have h3 := (Rd.st_must h2 (⟨#[41]⟩ : ByteArray)).inv h2
    rw [if_pos hy]
    refine entM Tryz.func82 Tryz.ntmps82 ?_
    (refine S ?_; try exact True.intro)
    (have W := And.intro hx' (hy); repeat' (first
    | refine awp_seq_k fun K hK => ?_
    | refine wkA ?_
    | (refine hK _ _ ?_; clear hK K)
    | (refine wcond (fun hc => ?_) (fun hc => ?_) <;> first | contradiction | (exfalso; omega) | skip)
    | refine cm (rline_c r (rok h)) ?_
    | refine cm (is_c r _ (rok h)) ?_
    | refine cm (must_c r.inc _ (rok hi)) ?_
    | refine cm (exprF_c h1) ?_
    | refine cm (must_c (exprF (r.inc.must (⟨#[40]⟩ : ByteArray))).1 _ (rok h2)) ?_
    | refine cm (put_w ((exprF (r.inc.must (⟨#[40]⟩ : ByteArray))).1.must (⟨#[41]⟩ : ByteArray)) _ _ _ _ [(exprF (r.inc.must (⟨#[40]⟩ : ByteArray))).2] _ VLe.sl (rok h3)) ?_
    | refine wkB ?_
    | exact True.intro
    | (clear hK K))); all_goals (try clear W)
    (refine retf [.tmp 2] ?_ ?_ <;> (try simp only [go_sem]))
  rw [if_neg hy]
  have hy' : r.is (⟨#[110, 101, 119]⟩ : ByteArray) = false := by simpa using hy
  by_cases hcl : r.calls = true
  · rw [if_pos hcl]
    refine entM Tryz.func82 Tryz.ntmps82 ?_
    (refine S ?_; try exact True.intro)
    (have W := And.intro hx' (And.intro hy' (hcl)); repeat' (first
    | refine awp_seq_k fun K hK => ?_
    | refine wkA ?_
    | (refine hK _ _ ?_; clear hK K)
    | (refine wcond (fun hc => ?_) (fun hc => ?_) <;> first | contradiction | (exfalso; omega) | skip)
    | refine cm (rline_c r (rok h)) ?_
    | refine cm (is_c r _ (rok h)) ?_
    | refine cm (calls_w h) ?_
    | refine cm (call_c h) ?_
    | refine wkB ?_
    | exact True.intro
    | (clear hK K))); all_goals (try clear W)
    (refine retf [.tmp 2] ?_ ?_ <;> (try simp only [go_sem]))
  · rw [if_neg hcl]
    have hc' : r.calls = false := by simpa using hcl
    refine entM Tryz.func82 Tryz.ntmps82 ?_
    (refine S ?_; try exact True.intro)
    (have W := And.intro hx' (And.intro hy' (hc')); repeat' (first
    | refine awp_seq_k fun K hK => ?_
    | refine wkA ?_
    | (refine hK _ _ ?_; clear hK K)
    | (refine wcond (fun hc => ?_) (fun hc => ?_) <;> first | contradiction | (exfalso; omega) | skip)
    | refine cm (rline_c r (rok h)) ?_
    | refine cm (is_c r _ (rok h)) ?_
    | refine cm (calls_w h) ?_
    | refine cm (exprF_c h) ?_
    | refine wkB ?_
    | exact True.intro
    | (clear hK K))); all_goals (try clear W)
    (refine retf [.tmp 2] ?_ ?_ <;> (try simp only [go_sem]))
set_option maxHeartbeats 4000000 in
set_option maxRecDepth 10000 in
theorem named_c {r : Rd} (h : r.Inv) (he : r.e = 0) (ln : Int) : ACalls Tryz.prog 84 [pR, rI ln] (encR r) (fun v l => v = rI (namedF r ln).2 ∧ l = encR (namedF r ln).1) := by
  have hri := h.lt
  have hrp := h.pos
  have hrl := h.len
  by_cases hcl : r.calls = true
  · have h1 := (callF_lt h hcl).1.inv h
    have h2 := (Rd.st_must h1 (⟨#[59]⟩ : ByteArray)).inv h1
    rw [namedF, if_pos hcl]
    refine entM Tryz.func84 Tryz.ntmps84 ?_
    (refine S ?_; try exact True.intro)
    (have W := hcl; repeat' (first
    | refine awp_seq_k fun K hK => ?_
    | refine wkA ?_
    | (refine hK _ _ ?_; clear hK K)
    | (refine wcond (fun hc => ?_) (fun hc => ?_) <;> first | contradiction | (exfalso; omega) | skip)
    | refine cm (calls_w h) ?_
    | refine cm (call_c h) ?_
    | refine cm (must_c (callF r).1 _ (rok h1)) ?_
    | refine cm (put_w ((callF r).1.must (⟨#[59]⟩ : ByteArray)) _ _ _ _ [(callF r).2] _ VLe.sl (rok h2)) ?_
    | refine wkB ?_
    | exact True.intro
    | (clear hK K))); all_goals (try clear W)
    (refine retf [.tmp 4] ?_ ?_ <;> (try simp only [go_sem]))
  rw [namedF, if_neg hcl]
  have hc' : r.calls = false := by simpa using hcl
  have h0 := (Rd.st_name h).inv h
  by_cases hx : r.name.1.is (⟨#[91]⟩ : ByteArray) = true
  · rw [if_pos hx]
    have d0 := (Rd.down_inv h0 (Rd.is_kind hx).1).1
    have d1 := (Rd.st_must d0 (⟨#[91]⟩ : ByteArray)).inv d0
    have d2 := (exprF_st d1).inv d1
    have d3 := (Rd.st_must d2 (⟨#[93]⟩ : ByteArray)).inv d2
    have d4 := (ptA_st h0 hx).2.inv h0
    have d5 := (ptB_st h0 hx).1.inv h0
    have d6 := (ptB_st h0 hx).2.inv h0
    have d7 := (Rd.st_must d6 (⟨#[59]⟩ : ByteArray)).inv d6
    have d3l := d3.dlo
    have d3h := d3.dhi
    unfold ptB ptA at *
    refine entM Tryz.func84 Tryz.ntmps84 ?_
    (refine S ?_; try exact True.intro)
    (have W := And.intro hc' (hx); repeat' (first
    | refine awp_seq_k fun K hK => ?_
    | refine wkA ?_
    | (refine hK _ _ ?_; clear hK K)
    | (refine wcond (fun hc => ?_) (fun hc => ?_) <;> first | contradiction | (exfalso; omega) | skip)
    | refine cm (calls_w h) ?_
    | refine cm (name_c r (rok h)) ?_
    | refine cm (is_c r.name.1 _ (rok h0)) ?_
    | refine cm (down_c r.name.1 (rok h0)) ?_
    | refine cm (must_c r.name.1.down _ (rok d0)) ?_
    | refine cm (exprF_c d1) ?_
    | refine cm (must_c (exprF (r.name.1.down.must (⟨#[91]⟩ : ByteArray))).1 _ (rok d2)) ?_
    | refine cm (must_c ((exprF (r.name.1.down.must (⟨#[91]⟩ : ByteArray))).1.must (⟨#[93]⟩ : ByteArray)).up _ (rok d4)) ?_
    | refine cm (exprF_c d5) ?_
    | refine cm (must_c (exprF (((exprF (r.name.1.down.must (⟨#[91]⟩ : ByteArray))).1.must (⟨#[93]⟩ : ByteArray)).up.must (⟨#[61]⟩ : ByteArray))).1 _ (rok d6)) ?_
    | refine cm (put_w ((exprF (((exprF (r.name.1.down.must (⟨#[91]⟩ : ByteArray))).1.must (⟨#[93]⟩ : ByteArray)).up.must (⟨#[61]⟩ : ByteArray))).1.must (⟨#[59]⟩ : ByteArray)) _ _ _ _ [(exprF (r.name.1.down.must (⟨#[91]⟩ : ByteArray))).2, (exprF (((exprF (r.name.1.down.must (⟨#[91]⟩ : ByteArray))).1.must (⟨#[93]⟩ : ByteArray)).up.must (⟨#[61]⟩ : ByteArray))).2] _ VLe.sl (rok d7)) ?_
    | refine wkB ?_
    | exact True.intro
    | (clear hK K))); all_goals (try clear W)
    (refine retf [.tmp 4] ?_ ?_ <;> (try simp only [go_sem]))
  · rw [if_neg hx]
    have hx' : r.name.1.is (⟨#[91]⟩ : ByteArray) = false := by simpa using hx
    have d1 := (Rd.st_must h0 (⟨#[61]⟩ : ByteArray)).inv h0
    have d2 := (rightF_st d1).inv d1
    have d3 := (Rd.st_must d2 (⟨#[59]⟩ : ByteArray)).inv d2
    refine entM Tryz.func84 Tryz.ntmps84 ?_
    (refine S ?_; try exact True.intro)
    (have W := And.intro hc' (hx'); repeat' (first
    | refine awp_seq_k fun K hK => ?_
    | refine wkA ?_
    | (refine hK _ _ ?_; clear hK K)
    | (refine wcond (fun hc => ?_) (fun hc => ?_) <;> first | contradiction | (exfalso; omega) | skip)
    | refine cm (calls_w h) ?_
    | refine cm (name_c r (rok h)) ?_
    | refine cm (is_c r.name.1 _ (rok h0)) ?_
    | refine cm (must_c r.name.1 _ (rok h0)) ?_
    | refine cm (right_c d1) ?_
    | refine cm (must_c (rightF (r.name.1.must (⟨#[61]⟩ : ByteArray))).1 _ (rok d2)) ?_
    | refine cm (put_w ((rightF (r.name.1.must (⟨#[61]⟩ : ByteArray))).1.must (⟨#[59]⟩ : ByteArray)) _ _ _ _ [(rightF (r.name.1.must (⟨#[61]⟩ : ByteArray))).2] _ VLe.sl (rok d3)) ?_
    | refine wkB ?_
    | exact True.intro
    | (clear hK K))); all_goals (try clear W)
    (refine retf [.tmp 4] ?_ ?_ <;> (try simp only [go_sem]))
set_option maxHeartbeats 1000000 in
theorem type_c (w : ByteArray) : PCall Tryz.prog 74 [rS w] (rI (typeOf w)) := by
  refine entP Tryz.func74 Tryz.ntmps74 ?_
  (repeat' (first
    | refine awp_seq_k fun K hK => ?_
    | refine wkA ?_
    | (refine hK _ _ ?_; clear hK K)
    | (refine wcond (fun hc => ?_) (fun hc => ?_) <;> first | contradiction | (exfalso; omega) | skip)
    | refine wkB ?_
    | exact True.intro
    | (clear hK K)))
  all_goals (refine retf [.tmp 2] ?_ ?_ <;> (try simp only [go_sem]))
  all_goals unfold typeOf
  all_goals repeat' split
  all_goals first | rfl | (exfalso; simp_all; done)
set_option maxHeartbeats 1000000 in
set_option maxRecDepth 10000 in
theorem typed_c {r : Rd} (h : r.Inv) : ACalls Tryz.prog 56 [pR] (encR r) (fun v l => v = rI (typedF r).2 ∧ l = encR (typedF r).1) := by
  have hri := h.lt
  have hrp := h.pos
  have hrl := h.len
  refine entM Tryz.func56 Tryz.ntmps56 ?_
  (refine S ?_; try exact True.intro)
  (repeat' (first
    | refine awp_seq_k fun K hK => ?_
    | refine wkA ?_
    | (refine hK _ _ ?_; clear hK K)
    | (refine wcond (fun hc => ?_) (fun hc => ?_) <;> first | contradiction | (exfalso; omega) | skip)
    | refine cm (rword_c r (rok h)) ?_
    | refine cp (type_c r.word) ?_
    | refine cm (fails_c r _ (rok h)) ?_
    | refine wkB ?_
    | exact True.intro
    | (clear hK K)))
  · (refine retf [.tmp 2] ?_ ?_ <;> (try simp only [go_sem]))
    · simp only [typedF, if_pos hc]
    · simp only [typedF, if_pos hc, go_sem]
  · (refine retf [.tmp 2] ?_ ?_ <;> (try simp only [go_sem]))
    · simp only [typedF, if_neg hc]
    · simp only [typedF, if_neg hc]; rfl
end Go.Proofs.YtbpmikjlfgfbmaaGreatDoor

/- Values, as functions. The plain law of the document's lexer. The plain law of the document's parser: what it makes of tokens. The plain law of the document's parser: statements, functions, all. The plain law of the document's lexer: what tokens are. No conditions. -/
import Derived.Test.YtfkgcobaheegbaaGreatDoorGdY
set_option linter.all false
namespace Go.Gd
open Go
abbrev sE:ByteArray:=⟨#[]⟩
def vI (n:Int):GValue:=⟨1,n,sE⟩
def vB (b:Bool):GValue:=⟨2,if b=true then 1 else 0,sE⟩
def vT (s:ByteArray):GValue:=⟨3,0,s⟩
def vZ (t:Int):GValue:=⟨t,0,sE⟩
def v0:GValue:=⟨0,0,sE⟩
def jl1 (v:GValue):Bool:=
 if v.ty=1 then decide (v.s=sE)
 else if v.ty=2 then decide (v.s=sE) && (decide (v.n=0) || decide (v.n=1))
 else if v.ty=3 then decide (v.n=0) && decide ((v.s.size:Int)≤40)
 else if v.ty=4 then decide (v.s=sE) && decide (0≤v.n)
 else false
def jiX (sign:ByteArray) (a b:Int):GValue×Int:=
 if sign=(⟨#[43]⟩:ByteArray) then (vI (IntKind.i64.wrap (a+b)),0)
 else if sign=(⟨#[45]⟩:ByteArray) then (vI (IntKind.i64.wrap (a - b)),0)
 else if sign=(⟨#[42]⟩:ByteArray) then (vI (IntKind.i64.wrap (a * b)),0)
 else if sign=(⟨#[47]⟩:ByteArray) then (if b=0 then (v0,1) else (vI (IntKind.i64.wrap (a.tdiv b)),0))
 else if sign=(⟨#[37]⟩:ByteArray) then (if b=0 then (v0,1) else (vI (a.tmod b),0))
 else if sign=(⟨#[60]⟩:ByteArray) then (vB (decide (a < b)),0)
 else if sign=(⟨#[60,61]⟩:ByteArray) then (vB (decide (a≤b)),0)
 else (v0,0)
def jjf (sign:ByteArray) (a b:GValue):GValue×Int:=
 if a.ty≠b.ty∨a.ty < 1∨4 < a.ty then (v0,0)
 else if sign=(⟨#[61,61]⟩:ByteArray) then (vB (decide (a.n=b.n) && decide (a.s=b.s)),0)
 else if sign=(⟨#[33,61]⟩:ByteArray) then (vB (!(decide (a.n=b.n) && decide (a.s=b.s))),0)
 else if a.ty=1 then jiX sign a.n b.n
 else if a.ty=2 then (if sign=(⟨#[124,124]⟩:ByteArray) then (vB (decide (a.n=1) || decide (b.n=1)),0) else if sign=(⟨#[38,38]⟩:ByteArray) then (vB (decide (a.n=1) && decide (b.n=1)),0) else (v0,0))
 else if a.ty=3 then (if sign=(⟨#[43]⟩:ByteArray) then (if (a.s.size:Int)+b.s.size > 40 then (v0,6) else (vT (a.s++b.s),0)) else (v0,0))
 else (v0,0)
def jem (sign:ByteArray) (a:GValue):GValue:=
 if sign=(⟨#[45]⟩:ByteArray)∧a.ty=1 then vI (IntKind.i64.wrap (-a.n))
 else if sign=(⟨#[33]⟩:ByteArray)∧a.ty=2 then vB (!decide (a.n=1))
 else v0
def jbv (n:Int):Bool:=decide (48≤n) && decide (n≤57)
def jfO (n:Int):Bool:=(decide (97≤n) && decide (n≤122)) || (decide (65≤n) && decide (n≤90))
def jp6 (s:ByteArray):Bool:=decide ((s.size:Int) < 19) || (decide ((s.size:Int)=19) && (Op.bytesLess s.toList (⟨#[57,50,50,51,51,55,50,48,51,54,56,53,52,55,55,53,56,48,55]⟩:ByteArray).toList || decide (s=(⟨#[57,50,50,51,51,55,50,48,51,54,56,53,52,55,55,53,56,48,55]⟩:ByteArray))))
def jej (s:ByteArray):Nat→Int
 | 0=>1
 | k+1=>if jaL s k=10 then jej s k+1 else jej s k
theorem jlh (s:ByteArray):∀ k,1≤jej s k∧jej s k≤k+1
 | 0=>by simp [jej]
 | k+1=>by
  have:=jlh s k
  unfold jej
  split<;>omega
def kwords:List ByteArray:=[(⟨#[102,110]⟩:ByteArray),(⟨#[108,101,116]⟩:ByteArray),(⟨#[105,102]⟩:ByteArray),(⟨#[101,108,115,101]⟩:ByteArray),(⟨#[119,104,105,108,101]⟩:ByteArray),(⟨#[114,101,116,117,114,110]⟩:ByteArray),(⟨#[112,114,105,110,116]⟩:ByteArray),(⟨#[105,110,112,117,116]⟩:ByteArray),(⟨#[110,101,119]⟩:ByteArray),(⟨#[108,101,110]⟩:ByteArray),(⟨#[116,114,117,101]⟩:ByteArray),(⟨#[102,97,108,115,101]⟩:ByteArray),(⟨#[105,110,116]⟩:ByteArray),(⟨#[98,111,111,108]⟩:ByteArray),(⟨#[116,101,120,116]⟩:ByteArray),(⟨#[108,105,115,116]⟩:ByteArray)]
theorem joP:kwords.length=16:=rfl
def jwI (s:ByteArray):Bool:=kwords.any fun t=>decide (t=s)
-- the first one
theorem jeJ {α:Type} [Inhabited α] {p:α→Bool}:∀ {l:List α} {k:Nat},(∀ j,j < k→p (nth l j)=false)→k < l.length→p (nth l k)=true→l.find? p=some (nth l k)
 | [],k,_,h,_=>by simp at h
 | x::l,0,_,_,hp=>by
  have:p x=true:=hp
  rw [List.find?_cons,this];rfl
 | x::l,k+1,h,hk,hp=>by
  have h0:p x=false:=h 0 (by omega)
  rw [List.find?_cons,h0]
  exact jeJ (fun j hj=>h (j+1) (by omega)) (by simpa using hk) hp
theorem jh2 {α:Type} [Inhabited α] {p:α→Bool} {l:List α} (h:∀ j,j < l.length→p (nth l j)=false):l.find? p=none:=by
 rw [List.find?_eq_none]
 intro x hx
 obtain ⟨j,hj,rfl⟩:=List.getElem_of_mem hx
 have:=h j hj
 rw [jbl hj] at this
 simp [this]
theorem jif {n k:Nat} (h:k < n):nth (List.range n) k=k:=by simp [nth,h]
-- bytes of which p holds
def jiB (p:Int→Bool) (s:ByteArray):Nat→Nat→Nat
 | 0,i=>i
 | n+1,i=>if i < s.size∧p (jaL s i)=true then jiB p s n (i+1) else i
def jcz (p:Int→Bool) (s:ByteArray) (i:Nat):Nat:=jiB p s (s.size+1) i
theorem jof {p:Int→Bool} {s:ByteArray} {k:Nat} (hstop:¬ (k < s.size∧p (jaL s k)=true)):∀ {n i:Nat},i≤k→k < n+i→(∀ j,i≤j→j < k→j < s.size∧p (jaL s j)=true)→jiB p s n i=k
 | 0,i,h1,h2,_=>by omega
 | n+1,i,h1,h2,h3=>by
  unfold jiB
  by_cases e:i=k
  ·subst e;rw [if_neg hstop]
  ·rw [if_pos (h3 i (Nat.le_refl _) (by omega))]
   exact jof hstop (by omega) (by omega) fun j hj=>h3 j (by omega)
theorem jhE {p:Int→Bool} {s:ByteArray} {i k:Nat} (hstop:¬ (k < s.size∧p (jaL s k)=true)) (h1:i≤k) (hk:k≤s.size) (h3:∀ j,i≤j→j < k→p (jaL s j)=true):jcz p s i=k:=
 jof hstop h1 (by omega) fun j hj hjk=>⟨by omega,h3 j hj hjk⟩
theorem jhF {p:Int→Bool} {s:ByteArray}:∀ {n i:Nat},i≤jiB p s n i∧(i≤s.size→jiB p s n i≤s.size)
 | 0,i=>⟨Nat.le_refl _,id⟩
 | n+1,i=>by
  unfold jiB
  split
  ·have:=jhF (p:=p) (s:=s) (n:=n) (i:=i+1)
   exact ⟨by omega,fun _=>this.2 (by omega)⟩
  ·exact ⟨Nat.le_refl _,id⟩
theorem jeV {p:Int→Bool} {s:ByteArray} {i:Nat} (h:i≤s.size):i≤jcz p s i∧jcz p s i≤s.size:=⟨jhF.1,jhF.2 h⟩
theorem jeA {p:Int→Bool} {s:ByteArray} {i:Nat} (h:i < s.size) (hp:p (jaL s i)=true):i < jcz p s i:=by
 unfold jcz
 unfold jiB
 rw [if_pos ⟨h,hp⟩]
 have:=(jhF (p:=p) (s:=s) (n:=s.size) (i:=i+1)).1
 omega
theorem jlN {p:Int→Bool} {s:ByteArray}:∀ {n i j:Nat},i≤j→j < jiB p s n i→p (jaL s j)=true
 | 0,i,j,h1,h2=>by unfold jiB at h2;omega
 | n+1,i,j,h1,h2=>by
  unfold jiB at h2
  split at h2
  ·rename_i h
   by_cases e:j=i
   ·subst e;exact h.2
   ·exact jlN (by omega) h2
  ·omega
-- jcs between tokens
def jzL (c:Int):Bool:=decide (c=32) || decide (c=9) || decide (c=13) || decide (c=10)
def jsi (s:ByteArray) (i:Nat):Bool:=decide (jaL s i=47) && decide (i+1 < s.size) && decide (jaL s (i+1:Nat)=47)
def jtO (c:Int):Bool:=decide (c≠10)
def jcW (s:ByteArray) (i:Nat):Option Nat:=if i < s.size then (if jzL (jaL s i)=true then some (i+1) else if jsi s i=true then some (jcz jtO s i) else none) else none
def skF (s:ByteArray):Nat→Nat→Nat
 | 0,i=>i
 | n+1,i=>match jcW s i with
  | some j=>skF s n j
  | none=>i
theorem jf4 {s:ByteArray} {i j:Nat} (h:jcW s i=some j):i < j∧j≤s.size:=by
 unfold jcW at h
 split at h
 ·rename_i hi
  split at h
  ·cases h;omega
  ·split at h
   ·rename_i hc
    cases h
    have hne:jtO (jaL s i)=true:=by
     simp only [jsi,Bool.and_eq_true,decide_eq_true_eq] at hc
     simp [jtO,hc.1.1]
    exact ⟨jeA hi hne,(jeV (by omega)).2⟩
   ·cases h
 ·cases h
theorem jjE (s:ByteArray):∀ (n m i:Nat),s.size < n+i→s.size < m+i→skF s n i=skF s m i
 | 0,0,i,_,_=>rfl
 | 0,m+1,i,h,_=>by
  unfold skF
  have:jcW s i=none:=by unfold jcW;rw [if_neg (by omega)]
  rw [this]
 | n+1,0,i,_,h=>by
  unfold skF
  have:jcW s i=none:=by unfold jcW;rw [if_neg (by omega)]
  rw [this]
 | n+1,m+1,i,h1,h2=>by
  unfold skF
  cases e:jcW s i with
  | none=>rfl
  | some j=>
   have:=jf4 e
   exact jjE s n m j (by omega) (by omega)
def skE (s:ByteArray) (i:Nat):Nat:=skF s (s.size+1) i
theorem joc {s:ByteArray} {i j:Nat} (h:jcW s i=some j):skE s i=skE s j:=by
 have:=jf4 h
 show skF s (s.size+1) i=skF s (s.size+1) j
 rw [skF,h]
 exact jjE s _ _ j (by omega) (by omega)
theorem job {s:ByteArray} {i:Nat} (h:jcW s i=none):skE s i=i:=by
 show skF s (s.size+1) i=i
 rw [skF,h]
theorem jqU {s:ByteArray}:∀ {n i:Nat},i≤skF s n i∧(i≤s.size→skF s n i≤s.size)
 | 0,i=>⟨Nat.le_refl _,id⟩
 | n+1,i=>by
  unfold skF
  cases e:jcW s i with
  | none=>exact ⟨Nat.le_refl _,id⟩
  | some j=>
   have h1:=jf4 e
   have h2:=jqU (s:=s) (n:=n) (i:=j)
   exact ⟨by simp only;omega,fun _=>h2.2 h1.2⟩
theorem jjD {s:ByteArray} {i:Nat} (h:i≤s.size):i≤skE s i∧skE s i≤s.size:=⟨jqU.1,jqU.2 h⟩
-- tokens
def juU (c:Int):Bool:=decide (32≤c) && decide (c≤126) && decide (c≠34)
def jgM (s:ByteArray) (a:Nat):ByteArray×Int×Int:=
 let i:=jcz juU s (a+1)
 if i < s.size∧jaL s i=34 then (if (i:Int) - a - 1 > 12 then (⟨#[]⟩,a,4) else (s.extract (a+1) i,(i:Int)+1,0)) else (⟨#[]⟩,a,11)
def twos:List ByteArray:=[(⟨#[124,124]⟩:ByteArray),(⟨#[38,38]⟩:ByteArray),(⟨#[60,61]⟩:ByteArray),(⟨#[61,61]⟩:ByteArray),(⟨#[33,61]⟩:ByteArray)]
def onesS:ByteArray:=(⟨#[40,41,123,125,91,93,44,59,61,60,43,45,42,47,37,33]⟩:ByteArray)
def jiZ (s t:ByteArray):Bool:=decide (2≤(s.size:Int)) && decide (s.extract 0 2=t)
def jf3 (s:ByteArray):ByteArray:=match twos.find? (jiZ s) with
 | some t=>t
 | none=>match (List.range 16).find? fun k:Nat=>decide (jaL s 0=jaL onesS (k:Nat)) with
  | some k=>onesS.extract k (k+1)
  | none=>⟨#[]⟩
def jpm (c:Int):Bool:=jfO c || jbv c || decide (c=95)
theorem jrQ {b:ByteArray} (h:b.size=0):b=⟨#[]⟩:=by
 obtain ⟨d⟩:=b
 have:d=#[]:=Array.size_eq_zero_iff.1 h
 rw [this]
def jwW:GToken:=⟨0,⟨#[]⟩,0⟩
def jby (s:ByteArray) (a:Nat):GToken×Int×Int:=
 if jbv (jaL s a)=true then
  (if jp6 (s.extract a (jcz jbv s a))=true then (⟨1,s.extract a (jcz jbv s a),a⟩,(jcz jbv s a:Nat),0) else (jwW,a,12))
 else if jfO (jaL s a)=true then
  (if jwI (s.extract a (jcz jpm s a))=true then (⟨4,s.extract a (jcz jpm s a),a⟩,(jcz jpm s a:Nat),0)
  else if ((s.extract a (jcz jpm s a)).size:Int) > 8 then (jwW,a,13) else (⟨3,s.extract a (jcz jpm s a),a⟩,(jcz jpm s a:Nat),0))
 else if jaL s a=34 then (⟨2,(jgM s a).1,a⟩,(jgM s a).2.1,(jgM s a).2.2)
 else if jf3 (s.extract a s.size)=⟨#[]⟩ then (jwW,a,10)
 else (⟨5,jf3 (s.extract a s.size),a⟩,a+(jf3 (s.extract a s.size)).size,0)
theorem jo3 (s:ByteArray):(jf3 s).size≤2:=by
 unfold jf3
 cases h:twos.find? (jiZ s) with
 | some t=>
  have hm:=List.mem_of_find?_eq_some h
  have:∀ t∈twos,t.size≤2:=by decide
  exact this t hm
 | none=>
  cases h2:(List.range 16).find? fun k:Nat=>decide (jaL s 0=jaL onesS (k:Nat)) with
  | some k=>
   simp only
   rw [ByteArray.size_extract]
   omega
  | none=>decide
theorem js7 {s t:ByteArray} (h:twos.find? (jiZ s)=some t):t.size=2∧2≤s.size:=by
 have hm:=List.mem_of_find?_eq_some h
 have hp:=List.find?_some h
 have:∀ t∈twos,t.size=2:=by decide
 simp only [jiZ,Bool.and_eq_true,decide_eq_true_eq] at hp
 exact ⟨this t hm,by omega⟩
theorem jsT {s:ByteArray} (hs:0 < s.size):(jf3 s).size≤s.size:=by
 unfold jf3
 cases h:twos.find? (jiZ s) with
 | some t=>have:=js7 h;simp only;omega
 | none=>
  cases h2:(List.range 16).find? fun k:Nat=>decide (jaL s 0=jaL onesS (k:Nat)) with
  | some k=>
   simp only
   rw [ByteArray.size_extract]
   omega
  | none=>exact Nat.zero_le _
theorem je0 {s:ByteArray} {a:Nat} (ha:a < s.size) (h:(jby s a).2.2=0):∃ e:Nat,(jby s a).2.1=e∧a < e∧e≤s.size:=by
 unfold jby at h ⊢
 split at h<;>rename_i h1
 ·rw [if_pos h1] at *
  split at h<;>rename_i h2
  ·rw [if_pos h2];exact ⟨_,rfl,jeA ha h1,(jeV (by omega)).2⟩
  ·cases h
 ·rw [if_neg h1] at *
  split at h<;>rename_i h2
  ·rw [if_pos h2]
   have hw:jpm (jaL s a)=true:=by simp [jpm,h2]
   split at h<;>rename_i h3
   ·rw [if_pos h3];exact ⟨_,rfl,jeA ha hw,(jeV (by omega)).2⟩
   ·rw [if_neg h3]
    split at h<;>rename_i h4
    ·cases h
    ·rw [if_neg h4];exact ⟨_,rfl,jeA ha hw,(jeV (by omega)).2⟩
  ·rw [if_neg h2]
   split at h<;>rename_i h3
   ·rw [if_pos h3]
    have hb:=jeV (p:=juU) (s:=s) (i:=a+1) (by omega)
    simp only [jgM] at h ⊢
    split at h<;>rename_i h4
    ·rw [if_pos h4]
     split at h<;>rename_i h5
     ·cases h
     ·rw [if_neg h5];exact ⟨jcz juU s (a+1)+1,by simp,by omega,by omega⟩
    ·cases h
   ·rw [if_neg h3]
    split at h<;>rename_i h4
    ·cases h
    ·rw [if_neg h4]
     have hsz:(s.extract a s.size).size=s.size - a:=by rw [ByteArray.size_extract];omega
     have hle:=jsT (s:=s.extract a s.size) (by omega)
     have hpos:0 < (jf3 (s.extract a s.size)).size:=by
      rcases Nat.eq_zero_or_pos (jf3 (s.extract a s.size)).size with e | e
      ·exact (h4 (jrQ e)).elim
      ·exact e
     exact ⟨a+(jf3 (s.extract a s.size)).size,by simp,by omega,by omega⟩
def jke (s:ByteArray):Nat→Nat→List GToken→List GToken×Int×Int
 | 0,_,out=>(out,0,0)
 | n+1,i,out=>if i < s.size then
   (if (jby s i).2.2=0 then jke s n (skE s (jby s i).2.1.toNat) (out++[(jby s i).1]) else ([],((i:Nat):Int),(jby s i).2.2))
  else (out++[⟨0,⟨#[]⟩,s.size⟩],0,0)
theorem jh9 (s:ByteArray):∀ (n m i:Nat) (out:List GToken),s.size < n+i→s.size < m+i→i≤s.size→jke s n i out=jke s m i out
 | 0,_,i,_,h,_,h3=>by omega
 | _,0,i,_,_,h,h3=>by omega
 | n+1,m+1,i,out,h1,h2,h3=>by
  unfold jke
  split
  ·rename_i hi
   split
   ·rename_i he
    obtain ⟨e,h4,h5,h6⟩:=je0 hi he
    rw [h4,Int.toNat_natCast]
    have:=jjD (s:=s) (i:=e) h6
    exact jh9 s n m _ _ (by omega) (by omega) this.2
   ·rfl
  ·rfl
def jwP (s:ByteArray) (i:Nat) (out:List GToken):List GToken×Int×Int:=jke s (s.size+1) i out
theorem jqe {s:ByteArray} {i:Nat} {out:List GToken} (hi:i < s.size) (he:(jby s i).2.2=0):jwP s i out=jwP s (skE s (jby s i).2.1.toNat) (out++[(jby s i).1]):=by
 show jke s (s.size+1) i out=jke s (s.size+1) _ _
 rw [jke,if_pos hi,if_pos he]
 obtain ⟨e,h4,h5,h6⟩:=je0 hi he
 rw [h4,Int.toNat_natCast]
 have:=jjD (s:=s) (i:=e) h6
 exact jh9 s _ _ _ _ (by omega) (by omega) this.2
theorem jqd {s:ByteArray} {i:Nat} {out:List GToken} (hi:i < s.size) (he:(jby s i).2.2≠0):jwP s i out=([],((i:Nat):Int),(jby s i).2.2):=by
 show jke s (s.size+1) i out=_
 rw [jke,if_pos hi,if_neg he]
theorem jso {s:ByteArray} {i:Nat} {out:List GToken} (hi:¬ i < s.size):jwP s i out=(out++[⟨0,⟨#[]⟩,s.size⟩],0,0):=by
 show jke s (s.size+1) i out=_
 rw [jke,if_neg hi]
def jcf (s:ByteArray):List GToken×Int×Int:=if (s.size:Int) > 600 then ([],0,4) else jwP s (skE s 0) []
structure Rd where
 src:ByteArray
 l:List GToken
 i:Int
 nodes:List GNode
 deep:Int
 e:Int
 at_:Int
 deriving Inhabited
namespace Rd
def tok (r:Rd):GToken:=nth r.l r.i.toNat
def fails (r:Rd) (e:Int):Rd:=if r.e=0 then { r with e:=e,at_:=r.tok.at_ } else r
def is (r:Rd) (t:ByteArray):Bool:=decide (r.e=0) && (decide (r.tok.kind=5) || decide (r.tok.kind=4)) && decide (r.tok.text=t)
def kind (r:Rd) (k:Int):Bool:=decide (r.e=0) && decide (r.tok.kind=k)
def inc (r:Rd):Rd:={ r with i:=r.i+1 }
def must (r:Rd) (t:ByteArray):Rd:=if r.is t=true then r.inc else r.fails 20
def name (r:Rd):Rd×ByteArray:=if r.kind 3=true then (r.inc,r.tok.text) else (r.fails 20,⟨#[]⟩)
def line (r:Rd):Int:=jej r.src (min r.src.size r.tok.at_.toNat)
def node (r:Rd) (n:GNode):Rd:={ r with nodes:=r.nodes++[n] }
def put (r:Rd) (k ln n:Int) (nm:ByteArray) (L:List Int):Rd×Int:=(r.node ⟨k,ln,n,nm,L⟩,r.nodes.length)
def down (r:Rd):Rd:={ (if 16≤r.deep then r.fails 21 else r) with deep:=r.deep+1 }
def up (r:Rd):Rd:={ r with deep:=r.deep - 1 }
end Rd
def jdj (level:Int):List ByteArray:=
 if level=0 then [(⟨#[124,124]⟩:ByteArray)] else if level=1 then [(⟨#[38,38]⟩:ByteArray)] else if level=2 then [(⟨#[60]⟩:ByteArray),(⟨#[60,61]⟩:ByteArray),(⟨#[61,61]⟩:ByteArray),(⟨#[33,61]⟩:ByteArray)] else if level=3 then [(⟨#[43]⟩:ByteArray),(⟨#[45]⟩:ByteArray)] else [(⟨#[42]⟩:ByteArray),(⟨#[47]⟩:ByteArray),(⟨#[37]⟩:ByteArray)]
namespace Rd
section
variable (r:Rd) (e:Int)
@[go_sem] theorem jk3:(r.fails e).src=r.src:=by unfold fails;split<;>rfl
@[go_sem] theorem fails_l:(r.fails e).l=r.l:=by unfold fails;split<;>rfl
@[go_sem] theorem jgq:(r.fails e).i=r.i:=by unfold fails;split<;>rfl
@[go_sem] theorem fails_nodes:(r.fails e).nodes=r.nodes:=by unfold fails;split<;>rfl
@[go_sem] theorem joG:(r.fails e).deep=r.deep:=by unfold fails;split<;>rfl
end
section
variable (r:Rd)
@[go_sem] theorem j1a:r.inc.src=r.src:=(rfl)
@[go_sem] theorem j6w:r.inc.l=r.l:=(rfl)
@[go_sem] theorem j6v:r.inc.i=r.i+1:=(rfl)
@[go_sem] theorem jxU:r.inc.nodes=r.nodes:=(rfl)
@[go_sem] theorem jzJ:r.inc.deep=r.deep:=(rfl)
@[go_sem] theorem j6u:r.inc.e=r.e:=(rfl)
@[go_sem] theorem j3T:r.inc.at_=r.at_:=(rfl)
@[go_sem] theorem j4n:r.up.src=r.src:=(rfl)
@[go_sem] theorem j7x:r.up.l=r.l:=(rfl)
@[go_sem] theorem j7w:r.up.i=r.i:=(rfl)
@[go_sem] theorem jzW:r.up.nodes=r.nodes:=(rfl)
@[go_sem] theorem j1o:r.up.deep=r.deep - 1:=(rfl)
@[go_sem] theorem j7v:r.up.e=r.e:=(rfl)
@[go_sem] theorem j7a:r.up.at_=r.at_:=(rfl)
end
def next (r:Rd) (level:Int):ByteArray:=match (jdj level).find? (fun s=>r.is s) with
 | some s=>s
 | none=>⟨#[]⟩
def nextTok (r:Rd):GToken:=nth r.l (r.i+1).toNat
def calls (r:Rd):Bool:=r.kind 3 && decide (r.nextTok.kind=5) && decide (r.nextTok.text=(⟨#[40]⟩:ByteArray))
def word (r:Rd):ByteArray:=if r.kind 4=true then r.tok.text else ⟨#[]⟩
end Rd
def jyh (s:ByteArray):Nat→Int
 | 0=>0
 | k+1=>jyh s k * 10+(jaL s k - 48)
def jik (s:ByteArray):Int:=jyh s s.size
mutual
def jiT:Nat→Rd→Rd×Int
 | 0,r=>(r,0)
 | n+1,r=>
  if r.e≠0 then (r,0)
  else if r.tok.kind=1 then r.inc.put 1 r.line (jik r.tok.text) ⟨#[]⟩ []
  else if r.tok.kind=2 then r.inc.put 3 r.line 0 r.tok.text []
  else if r.tok.kind=3 then
   (if r.inc.is (⟨#[91]⟩:ByteArray)=true then
    (((jaC n 0 (r.inc.down.must (⟨#[91]⟩:ByteArray))).1.must (⟨#[93]⟩:ByteArray)).up).put 5 r.line 0 r.tok.text [(jaC n 0 (r.inc.down.must (⟨#[91]⟩:ByteArray))).2]
   else r.inc.put 4 r.line 0 r.tok.text [])
  else if r.is (⟨#[116,114,117,101]⟩:ByteArray)=true then r.inc.put 2 r.line 1 ⟨#[]⟩ []
  else if r.is (⟨#[102,97,108,115,101]⟩:ByteArray)=true then r.inc.put 2 r.line 0 ⟨#[]⟩ []
  else if r.is (⟨#[108,101,110]⟩:ByteArray)=true then
   (if r.inc.is (⟨#[40]⟩:ByteArray)=true then
    (((jaC n 0 (r.inc.down.must (⟨#[40]⟩:ByteArray))).1.must (⟨#[41]⟩:ByteArray)).up).put 6 r.line 0 ⟨#[]⟩ [(jaC n 0 (r.inc.down.must (⟨#[40]⟩:ByteArray))).2]
   else (r.inc.fails 20,0))
  else if r.is (⟨#[40]⟩:ByteArray)=true then
   (((jaC n 0 (r.down.must (⟨#[40]⟩:ByteArray))).1.must (⟨#[41]⟩:ByteArray)).up,(jaC n 0 (r.down.must (⟨#[40]⟩:ByteArray))).2)
  else (r.fails 20,0)
def ja8:Nat→Rd→Rd×Int
 | 0,r=>(r,0)
 | n+1,r=>
  if r.is (⟨#[45]⟩:ByteArray)=true then ((ja8 n r.down.inc).1.up).put 7 r.line 0 ⟨#[]⟩ [(ja8 n r.down.inc).2]
  else if r.is (⟨#[33]⟩:ByteArray)=true then ((ja8 n r.down.inc).1.up).put 8 r.line 0 ⟨#[]⟩ [(ja8 n r.down.inc).2]
  else jiT n r
def jaC:Nat→Nat→Rd→Rd×Int
 | 0,_,r=>(r,0)
 | n+1,lv,r=>if lv=5 then ja8 n r else jgx n lv r.line (jaC n (lv+1) r)
def jgx:Nat→Nat→Int→Rd×Int→Rd×Int
 | 0,_,_,p=>p
 | n+1,lv,ln,p=>
  if p.1.next lv=⟨#[]⟩ then p
  else if lv=2 then ((jaC n (lv+1) p.1.inc).1).put 9 ln 0 (p.1.next lv) [p.2,(jaC n (lv+1) p.1.inc).2]
  else jgx n lv ln (((jaC n (lv+1) p.1.inc).1).put 9 ln 0 (p.1.next lv) [p.2,(jaC n (lv+1) p.1.inc).2])
end
-- what is kept
def Rd.rem (r:Rd):Nat:=if r.e=0 then (r.l.length - r.i).toNat else 0
def Rd.pot (r:Rd):Int:=r.nodes.length+3 * (r.l.length - r.i)+if r.e=0 then 1 else 0
def jfy (s:ByteArray):Prop:=0 < s.size∧jp6 s=true∧∀ j,j < s.size→jbv (jaL s j)=true
structure Rd.Inv (r:Rd):Prop where
 src:r.src.size≤1000
 pos:0≤r.i
 lt:r.i < r.l.length
 len:r.l.length≤2000
 num:∀ k,k < r.l.length→(nth r.l k).kind=1→jfy (nth r.l k).text
 tk:∀ k,k < r.l.length→(nth r.l k).kind≠0→k+1 < r.l.length
 dlo:0≤r.deep
 dhi:r.deep≤17
 dok:r.e=0→r.deep≤16
 pot:r.pot≤8000
structure Rd.St (r r':Rd):Prop where
 src:r'.src=r.src
 l:r'.l=r.l
 deep:r'.deep=r.deep
 i:r.i≤r'.i
 lt:r'.i < r.l.length
 pot:r'.pot≤r.pot
 err:r.e≠0→r'.e≠0
theorem Rd.St.inv {r r':Rd} (s:Rd.St r r') (h:r.Inv):r'.Inv:=by
 obtain ⟨s1,s2,s3,s4,s5,s6,s7⟩:=s
 obtain ⟨h1,h2,h3,h4,hn,h5,h6,h7,h8,h9⟩:=h
 exact ⟨by rw [s1];exact h1,by omega,by rw [s2];exact s5,by rw [s2];exact h4,by rw [s2];exact hn,by rw [s2];exact h5,by omega,by omega,fun h=>by
  rw [s3];exact h8 (Classical.byContradiction fun e=>s7 e h),by omega⟩
theorem Rd.St.refl {r:Rd} (h:r.Inv):Rd.St r r:=⟨rfl,rfl,rfl,Int.le_refl _,h.lt,Int.le_refl _,id⟩
theorem Rd.St.trans {a b c:Rd} (h:Rd.St a b) (k:Rd.St b c):Rd.St a c:=
 ⟨k.src.trans h.src,k.l.trans h.l,k.deep.trans h.deep,Int.le_trans h.i k.i,by have:=k.lt;rw [h.l] at this;exact this,Int.le_trans k.pot h.pot,fun e=>k.err (h.err e)⟩
theorem Rd.St.rem {r r':Rd} (s:Rd.St r r'):r'.rem≤r.rem:=by
 unfold Rd.rem
 have h1:=s.i
 have h2:=s.l
 by_cases e:r.e=0
 ·rw [if_pos e,h2]
  split<;>omega
 ·rw [if_neg e,if_neg (s.err e)];exact Nat.le_refl _
theorem Rd.behind {r:Rd} (h:r.Inv) (hk:r.tok.kind≠0):r.i+1 < r.l.length:=by
 have:=h.tk r.i.toNat (by have:=h.lt;have:=h.pos;omega) hk
 have:=h.pos
 omega
theorem Rd.is_kind {r:Rd} {t:ByteArray} (h:r.is t=true):r.e=0∧r.tok.kind≠0:=by
 simp only [Rd.is,Bool.and_eq_true,Bool.or_eq_true,decide_eq_true_eq] at h
 exact ⟨h.1.1,by rcases h.1.2 with h | h<;>omega⟩
theorem Rd.kind_kind {r:Rd} {k:Int} (h:r.kind k=true) (h0:k≠0):r.e=0∧r.tok.kind≠0:=by
 simp only [Rd.kind,Bool.and_eq_true,decide_eq_true_eq] at h
 exact ⟨h.1,by omega⟩
theorem Rd.st_fails {r:Rd} (h:r.Inv) (e:Int) (he:e≠0):Rd.St r (r.fails e):=by
 refine ⟨jk3 _ _,fails_l _ _,joG _ _,by rw [jgq];exact Int.le_refl _,by rw [jgq];exact h.lt,?_,fun h1=>by unfold fails;rw [if_neg h1];exact h1⟩
 unfold Rd.pot
 rw [fails_nodes,fails_l,jgq]
 by_cases e0:r.e=0
 ·have:(r.fails e).e=e:=by unfold fails;rw [if_pos e0]
  rw [this,if_pos e0,if_neg he];omega
 ·have:(r.fails e).e=r.e:=by unfold fails;rw [if_neg e0]
  rw [this];omega
theorem Rd.st_inc {r:Rd} (h:r.Inv) (hk:r.tok.kind≠0):Rd.St r r.inc∧r.inc.pot=r.pot - 3:=by
 have:=Rd.behind h hk
 have e:r.inc.pot=r.pot - 3:=by simp only [Rd.pot,Rd.inc];omega
 exact ⟨⟨rfl,rfl,rfl,by simp only [Rd.inc];omega,by simp only [Rd.inc];omega,by omega,id⟩,e⟩
theorem Rd.st_must {r:Rd} (h:r.Inv) (t:ByteArray):Rd.St r (r.must t):=by
 unfold Rd.must
 split
 ·rename_i hs;exact (Rd.st_inc h (Rd.is_kind hs).2).1
 ·exact Rd.st_fails h 20 (by decide)
theorem Rd.st_name {r:Rd} (h:r.Inv):Rd.St r r.name.1:=by
 unfold Rd.name
 split
 ·rename_i hs;exact (Rd.st_inc h (Rd.kind_kind hs (by decide)).2).1
 ·exact Rd.st_fails h 20 (by decide)
theorem Rd.pot_node (r:Rd) (n:GNode):(r.node n).pot=r.pot+1:=by simp only [Rd.pot,Rd.node,List.length_append,List.length_cons,List.length_nil];omega
theorem Rd.st_put {r r':Rd} (s:Rd.St r r') (hp:r'.pot+1≤r.pot) (k ln n:Int) (nm:ByteArray) (L:List Int):Rd.St r (r'.put k ln n nm L).1:=
 ⟨s.src,s.l,s.deep,s.i,s.lt,by show (r'.node _).pot≤_;rw [Rd.pot_node];exact hp,s.err⟩
theorem Rd.down_e {r:Rd}:r.down.e=(if 16≤r.deep then r.fails 21 else r).e:=rfl
theorem Rd.down_inv {r:Rd} (h:r.Inv) (he:r.e=0):r.down.Inv∧r.down.pot≤r.pot∧r.down.i=r.i∧r.down.l=r.l∧r.down.src=r.src∧r.down.deep=r.deep+1:=by
 have hd:=h.dok he
 have hi:r.down.i=r.i:=by unfold Rd.down;split<;>simp [jgq]
 have hl:r.down.l=r.l:=by unfold Rd.down;split<;>simp [fails_l]
 have hs:r.down.src=r.src:=by unfold Rd.down;split<;>simp [jk3]
 have hn:r.down.nodes=r.nodes:=by unfold Rd.down;split<;>simp [fails_nodes]
 have hdd:r.down.deep=r.deep+1:=rfl
 have hee:r.down.e=0→r.deep < 16:=fun e=>by
  rw [Rd.down_e] at e
  split at e
  ·unfold fails at e;rw [if_pos he] at e;cases e
  ·omega
 have hp:r.down.pot≤r.pot:=by
  unfold Rd.pot
  rw [hn,hl,hi,if_pos he]
  split<;>omega
 refine ⟨⟨by rw [hs];exact h.src,by rw [hi];exact h.pos,by rw [hi,hl];exact h.lt,by rw [hl];exact h.len,by rw [hl];exact h.num,by rw [hl];exact h.tk,by have:=h.dlo;omega,by omega,fun e=>by have:=hee e;omega,by have:=h.pot;omega⟩,hp,hi,hl,hs,hdd⟩
theorem Rd.st_deep {r r':Rd} (h:r.Inv) (he:r.e=0) (s:Rd.St r.down r'):Rd.St r r'.up:=by
 obtain ⟨_,h1,h2,h3,h4,h5⟩:=Rd.down_inv h he
 exact ⟨s.src.trans h4,s.l.trans h3,by show r'.deep - 1=_;rw [s.deep,h5];omega,by show r.i≤r'.i;rw [← h2];exact s.i,by show r'.i < _;rw [← h3];exact s.lt,by show r'.pot≤_;have:=s.pot;omega,fun e=>(e he).elim⟩
theorem Rd.next_is {r:Rd} {lv:Int} (h:r.next lv≠⟨#[]⟩):r.is (r.next lv)=true:=by
 unfold Rd.next at h ⊢
 cases e:(jdj lv).find? (fun s=>r.is s) with
 | none=>rw [e] at h;exact (h rfl).elim
 | some s=>exact List.find?_some e
theorem Rd.rem_inc {r:Rd} (h:r.Inv) (hk:r.e=0∧r.tok.kind≠0):r.inc.rem+1≤r.rem:=by
 have:=Rd.behind h hk.2
 unfold Rd.rem
 rw [if_pos hk.1,if_pos (show r.inc.e=0 from hk.1)]
 have:r.inc.i=r.i+1:=rfl
 have:r.inc.l=r.l:=rfl
 simp only [*]
 omega
theorem jep:∀ n,(∀ r:Rd,r.Inv→Rd.St r (jiT n r).1)∧(∀ r:Rd,r.Inv→Rd.St r (ja8 n r).1)∧(∀ lv (r:Rd),r.Inv→Rd.St r (jaC n lv r).1)∧(∀ lv ln (p:Rd×Int),p.1.Inv→Rd.St p.1 (jgx n lv ln p).1)
 | 0=>⟨fun r h=>by unfold jiT;exact .refl h,fun r h=>by unfold ja8;exact .refl h,fun lv r h=>by unfold jaC;exact .refl h,fun lv ln p h=>by unfold jgx;exact .refl h⟩
 | n+1=>by
  obtain ⟨ia,if_,ic,il⟩:=jep n
  -- a token, and what is behind it, deeper
  have deeper:∀ (r:Rd) (t u:ByteArray),r.Inv→r.e=0→Rd.St r ((jaC n 0 (r.down.must t)).1.must u).up:=fun r t u h he=>by
   have h1:=(Rd.down_inv h he).1
   have s1:=Rd.st_must h1 t
   have s2:=ic 0 _ (s1.inv h1)
   have s12:=s1.trans s2
   have s3:=Rd.st_must (s12.inv h1) u
   exact Rd.st_deep h he (s12.trans s3)
  refine ⟨fun r h=>?_,fun r h=>?_,fun lv r h=>?_,fun lv ln p h=>?_⟩
  ·unfold jiT
   split
   ·exact .refl h
   rename_i he
   have he:r.e=0:=by omega
   split
   ·rename_i hk
    obtain ⟨s1,e1⟩:=Rd.st_inc h (by omega)
    exact Rd.st_put s1 (by omega) _ _ _ _ _
   split
   ·rename_i hk
    obtain ⟨s1,e1⟩:=Rd.st_inc h (by omega)
    exact Rd.st_put s1 (by omega) _ _ _ _ _
   split
   ·rename_i hk
    obtain ⟨s1,e1⟩:=Rd.st_inc h (by omega)
    split
    ·have s2:=deeper r.inc (⟨#[91]⟩:ByteArray) (⟨#[93]⟩:ByteArray) (s1.inv h) he
     exact Rd.st_put (s1.trans s2) (by have:=s2.pot;omega) _ _ _ _ _
    ·exact Rd.st_put s1 (by omega) _ _ _ _ _
   split
   ·rename_i hs
    obtain ⟨s1,e1⟩:=Rd.st_inc h (Rd.is_kind hs).2
    exact Rd.st_put s1 (by omega) _ _ _ _ _
   split
   ·rename_i hs
    obtain ⟨s1,e1⟩:=Rd.st_inc h (Rd.is_kind hs).2
    exact Rd.st_put s1 (by omega) _ _ _ _ _
   split
   ·rename_i hs
    obtain ⟨s1,e1⟩:=Rd.st_inc h (Rd.is_kind hs).2
    split
    ·have s2:=deeper r.inc (⟨#[40]⟩:ByteArray) (⟨#[41]⟩:ByteArray) (s1.inv h) he
     exact Rd.st_put (s1.trans s2) (by have:=s2.pot;omega) _ _ _ _ _
    ·exact s1.trans (Rd.st_fails (s1.inv h) 20 (by decide))
   split
   ·exact deeper r (⟨#[40]⟩:ByteArray) (⟨#[41]⟩:ByteArray) h he
   ·exact Rd.st_fails h 20 (by decide)
  ·unfold ja8
   have sg:∀ t,r.is t=true→∀ k ln nm,Rd.St r (((ja8 n r.down.inc).1.up).put k ln 0 nm [(ja8 n r.down.inc).2]).1:=fun t ht k ln nm=>by
    obtain ⟨he,hk⟩:=Rd.is_kind ht
    obtain ⟨h1,h2,h3,h4,_⟩:=Rd.down_inv h he
    have htk:r.down.tok=r.tok:=by unfold Rd.tok;rw [h3,h4]
    obtain ⟨s1,e1⟩:=Rd.st_inc h1 (by rw [htk];exact hk)
    have s2:=if_ _ (s1.inv h1)
    exact Rd.st_put (Rd.st_deep h he (s1.trans s2)) (by have:=s2.pot;show (ja8 n r.down.inc).1.pot+1≤_;omega) _ _ _ _ _
   split
   ·rename_i ht;exact sg _ ht _ _ _
   split
   ·rename_i ht;exact sg _ ht _ _ _
   ·exact ia r h
  ·unfold jaC
   split
   ·exact if_ r h
   ·have s1:=ic (lv+1) r h
    exact s1.trans (il _ _ _ (s1.inv h))
  ·unfold jgx
   split
   ·exact .refl h
   rename_i hn
   obtain ⟨s1,e1⟩:=Rd.st_inc h (Rd.is_kind (Rd.next_is hn)).2
   have s2:=ic (lv+1) _ (s1.inv h)
   have s3:=fun L=>Rd.st_put (s1.trans s2) (by have:=s2.pot;omega) 9 ln 0 (p.1.next lv) L
   split
   ·exact s3 _
   ·exact (s3 _).trans (il _ _ _ ((s3 _).inv h))
def jaS (r:Rd):Rd×Int:=jaC (8 * r.rem+8) 0 r
def jfg:Nat→Bool→Rd→List Int→Rd×List Int
 | 0,_,r,L=>(r,L)
 | _+1,false,r,L=>(r,L)
 | n+1,true,r,L=>if (jaS r).1.is (⟨#[44]⟩:ByteArray)=true then jfg n true (jaS r).1.inc (L++[(jaS r).2]) else ((jaS r).1,L++[(jaS r).2])
def more (r:Rd):Bool:=!(r.is (⟨#[41]⟩:ByteArray)) && decide (r.e=0)
def jhi (r:Rd):Rd:=r.name.1.must (⟨#[40]⟩:ByteArray)
def jfC (r:Rd):Rd×List Int:=jfg ((jhi r).rem+2) (more (jhi r)) (jhi r) []
def je5 (r:Rd):Rd×Int:=((jfC r).1.must (⟨#[41]⟩:ByteArray)).put 21 r.line 0 r.name.2 (jfC r).2
def jcw (r:Rd):Rd×Int:=
 if r.is (⟨#[105,110,112,117,116]⟩:ByteArray)=true then r.inc.put 19 r.line 0 ⟨#[]⟩ []
 else if r.is (⟨#[110,101,119]⟩:ByteArray)=true then ((jaS (r.inc.must (⟨#[40]⟩:ByteArray))).1.must (⟨#[41]⟩:ByteArray)).put 20 r.line 0 ⟨#[]⟩ [(jaS (r.inc.must (⟨#[40]⟩:ByteArray))).2]
 else if r.calls=true then je5 r else jaS r
def ptA (r:Rd):Rd×Int:=jaS (r.down.must (⟨#[91]⟩:ByteArray))
def ptB (r:Rd):Rd×Int:=jaS (((ptA r).1.must (⟨#[93]⟩:ByteArray)).up.must (⟨#[61]⟩:ByteArray))
def jex (r:Rd) (ln:Int):Rd×Int:=
 if r.calls=true then ((je5 r).1.must (⟨#[59]⟩:ByteArray)).put 13 ln 0 ⟨#[]⟩ [(je5 r).2]
 else if r.name.1.is (⟨#[91]⟩:ByteArray)=true then ((ptB r.name.1).1.must (⟨#[59]⟩:ByteArray)).put 12 ln 0 r.name.2 [(ptA r.name.1).2,(ptB r.name.1).2]
 else ((jcw (r.name.1.must (⟨#[61]⟩:ByteArray))).1.must (⟨#[59]⟩:ByteArray)).put 11 ln 0 r.name.2 [(jcw (r.name.1.must (⟨#[61]⟩:ByteArray))).2]
mutual
def jbd:Nat→Rd→Rd×Int
 | 0,r=>(r,0)
 | n+1,r=>
  if r.is (⟨#[123]⟩:ByteArray)=true then ((jcY n (r.down.must (⟨#[123]⟩:ByteArray)) []).1.must (⟨#[125]⟩:ByteArray)).up.put 18 r.line 0 ⟨#[]⟩ (jcY n (r.down.must (⟨#[123]⟩:ByteArray)) []).2
  else (r.fails 20,0)
def jcY:Nat→Rd→List Int→Rd×List Int
 | 0,r,L=>(r,L)
 | n+1,r,L=>if r.e=0∧r.is (⟨#[125]⟩:ByteArray)=false then jcY n (jga n r).1 (L++[(jga n r).2]) else (r,L)
def jga:Nat→Rd→Rd×Int
 | 0,r=>(r,0)
 | n+1,r=>
  if r.word=(⟨#[108,101,116]⟩:ByteArray) then ((jcw (r.inc.name.1.must (⟨#[61]⟩:ByteArray))).1.must (⟨#[59]⟩:ByteArray)).put 10 r.line 0 r.inc.name.2 [(jcw (r.inc.name.1.must (⟨#[61]⟩:ByteArray))).2]
  else if r.word=(⟨#[112,114,105,110,116]⟩:ByteArray) then ((jaS r.inc).1.must (⟨#[59]⟩:ByteArray)).put 14 r.line 0 ⟨#[]⟩ [(jaS r.inc).2]
  else if r.word=(⟨#[119,104,105,108,101]⟩:ByteArray) then (jbd n (jaS r.inc).1).1.put 16 r.line 0 ⟨#[]⟩ [(jaS r.inc).2,(jbd n (jaS r.inc).1).2]
  else if r.word=(⟨#[105,102]⟩:ByteArray) then
   (if (jbd n (jaS r.inc).1).1.is (⟨#[101,108,115,101]⟩:ByteArray)=true then (jbd n (jbd n (jaS r.inc).1).1.inc).1.put 15 r.line 0 ⟨#[]⟩ [(jaS r.inc).2,(jbd n (jaS r.inc).1).2,(jbd n (jbd n (jaS r.inc).1).1.inc).2]
   else (jbd n (jaS r.inc).1).1.put 15 r.line 0 ⟨#[]⟩ [(jaS r.inc).2,(jbd n (jaS r.inc).1).2])
  else if r.word=(⟨#[114,101,116,117,114,110]⟩:ByteArray) then
   (if r.inc.is (⟨#[59]⟩:ByteArray)=true then (r.inc.must (⟨#[59]⟩:ByteArray)).put 17 r.line 0 ⟨#[]⟩ []
   else ((jaS r.inc).1.must (⟨#[59]⟩:ByteArray)).put 17 r.line 0 ⟨#[]⟩ [(jaS r.inc).2])
  else jex r r.line
end
def jgj (r:Rd):Rd×Int:=jbd (4 * r.rem+4) r
def jhf (w:ByteArray):Int:=if w=(⟨#[105,110,116]⟩:ByteArray) then 1 else if w=(⟨#[98,111,111,108]⟩:ByteArray) then 2 else if w=(⟨#[116,101,120,116]⟩:ByteArray) then 3 else if w=(⟨#[108,105,115,116]⟩:ByteArray) then 4 else 0
def jbP (r:Rd):Rd×Int:=if jhf r.word=0 then (r.fails 20,0) else (r.inc,jhf r.word)
def jez (r:Rd):Rd:=(jbP r.name.1).1
def jca:Nat→Bool→Rd→List GParam→Rd×List GParam
 | 0,_,r,L=>(r,L)
 | _+1,false,r,L=>(r,L)
 | n+1,true,r,L=>if (jez r).is (⟨#[44]⟩:ByteArray)=true then jca n true (jez r).inc (L++[⟨r.name.2,(jbP r.name.1).2⟩]) else (jez r,L++[⟨r.name.2,(jbP r.name.1).2⟩])
def fnA (r:Rd):Rd:=(r.must (⟨#[102,110]⟩:ByteArray)).name.1.must (⟨#[40]⟩:ByteArray)
def fnB (r:Rd):Rd×List GParam:=jca ((fnA r).rem+2) (more (fnA r)) (fnA r) []
def fnC (r:Rd):Rd:=(fnB r).1.must (⟨#[41]⟩:ByteArray)
def fnD (r:Rd):Rd×Int:=if (fnC r).is (⟨#[123]⟩:ByteArray)=true then (fnC r,0) else jbP (fnC r)
def fnF (r:Rd):Rd×GFunc:=((jgj (fnD r).1).1,⟨(r.must (⟨#[102,110]⟩:ByteArray)).name.2,r.line,(fnB r).2,(fnD r).2,(jgj (fnD r).1).2⟩)
def jrx:Nat→Rd→List GFunc→Rd×List GFunc
 | 0,r,L=>(r,L)
 | n+1,r,L=>if r.e=0∧r.kind 0=false then jrx n (fnF r).1 (L++[(fnF r).2]) else (r,L)
def rd0 (s:ByteArray):Rd:=⟨s,(jcf s).1,0,[],0,0,0⟩
def jdt (s:ByteArray):Rd×List GFunc:=jrx ((rd0 s).rem+1) (rd0 s) []
def jui (t:List GNode) (L:List GFunc):Bool:=decide (300 < t.length) || decide (6 < L.length) || L.any fun f=>decide (3 < f.params.length)
def jaR (s:ByteArray):GTree×Int×Int:=
 if (jcf s).2.2≠0 then (⟨[],[]⟩,(jcf s).2.1,(jcf s).2.2)
 else if (jdt s).1.e≠0 then (⟨[],[]⟩,(jdt s).1.at_,(jdt s).1.e)
 else if jui (jdt s).1.nodes (jdt s).2=true then (⟨[],[]⟩,0,4)
 else (⟨(jdt s).1.nodes,(jdt s).2⟩,0,0)
-- what is kept
theorem Rd.St.rem_lt {r r':Rd} (s:Rd.St r r') (h:r.Inv) (he:r.e=0) (hi:r.i+1≤r'.i):r'.rem+1≤r.rem:=by
 have h1:=s.l
 have h2:=s.lt
 have h3:=h.pos
 unfold Rd.rem
 rw [if_pos he,h1]
 split<;>omega
theorem Rd.St.rem_err {r r':Rd} (h:r.Inv) (he:r.e=0) (hi:r'.e≠0):r'.rem+1≤r.rem:=by
 have h2:=h.lt
 have h3:=h.pos
 unfold Rd.rem
 rw [if_pos he,if_neg hi]
 omega
theorem Rd.fails_e {r:Rd} {e:Int} (he:e≠0):(r.fails e).e≠0:=by
 unfold Rd.fails
 split
 ·exact he
 ·assumption
theorem Rd.must_lt {r:Rd} (h:r.Inv) (he:r.e=0) (t:ByteArray):(r.must t).rem+1≤r.rem∧(r.must t).pot+1≤r.pot:=by
 unfold Rd.must
 split
 ·rename_i hs
  have hk:=Rd.is_kind hs
  exact ⟨Rd.rem_inc h hk,by rw [(Rd.st_inc h hk.2).2];omega⟩
 ·have he':=Rd.fails_e (r:=r) (e:=20) (by decide)
  refine ⟨Rd.St.rem_err h he he',?_⟩
  unfold Rd.pot
  rw [fails_nodes,fails_l,jgq,if_pos he,if_neg he']
  omega
theorem Rd.name_lt {r:Rd} (h:r.Inv) (he:r.e=0):r.name.1.rem+1≤r.rem∧r.name.1.pot+1≤r.pot:=by
 unfold Rd.name
 split
 ·rename_i hs
  have hk:=Rd.kind_kind hs (by decide)
  exact ⟨Rd.rem_inc h hk,by show r.inc.pot+1≤_;rw [(Rd.st_inc h hk.2).2];omega⟩
 ·have he':=Rd.fails_e (r:=r) (e:=20) (by decide)
  refine ⟨Rd.St.rem_err h he he',?_⟩
  show (r.fails 20).pot+1≤_
  unfold Rd.pot
  rw [fails_nodes,fails_l,jgq,if_pos he,if_neg he']
  omega
theorem Rd.down_must {r:Rd} (h:r.Inv) {t:ByteArray} (ht:r.is t=true):(r.down.must t).rem+1≤r.rem∧(r.down.must t).pot+1≤r.pot:=by
 obtain ⟨he,hk⟩:=Rd.is_kind ht
 obtain ⟨h1,h2,h3,h4,h5,h6⟩:=Rd.down_inv h he
 by_cases e:r.down.e=0
 ·obtain ⟨a,b⟩:=Rd.must_lt h1 e t
  have:r.down.rem≤r.rem:=by
   unfold Rd.rem
   rw [if_pos he,if_pos e,h3,h4]
   exact Nat.le_refl _
  omega
 ·have hs:=Rd.st_must h1 t
  have e2:(r.down.must t).e≠0:=hs.err e
  refine ⟨Rd.St.rem_err h he e2,?_⟩
  have:r.down.pot+1≤r.pot:=by
   have hn:r.down.nodes=r.nodes:=by unfold Rd.down;split<;>simp [fails_nodes]
   unfold Rd.pot
   rw [hn,h4,h3,if_pos he,if_neg e]
   omega
  have:=hs.pot
  omega
theorem ja7 {r:Rd} (h:r.Inv):Rd.St r (jaS r).1:=(jep _).2.2.1 0 r h
theorem jjM:∀ (n:Nat) (b:Bool) (r:Rd) (L:List Int),r.Inv→Rd.St r (jfg n b r L).1
 | 0,_,r,L,h=>by unfold jfg;exact .refl h
 | n+1,false,r,L,h=>by unfold jfg;exact .refl h
 | n+1,true,r,L,h=>by
  have s1:=ja7 h
  have h1:=s1.inv h
  unfold jfg
  split
  ·rename_i hs
   have s2:=(Rd.st_inc h1 (Rd.is_kind hs).2).1
   exact (s1.trans s2).trans (jjM n _ _ _ (s2.inv h1))
  ·exact s1
theorem jhv {r:Rd} (h:r.Inv):Rd.St r (jhi r):=(Rd.st_name h).trans (Rd.st_must ((Rd.st_name h).inv h) _)
theorem jjR {r:Rd} (h:r.Inv):Rd.St r (jfC r).1:=(jhv h).trans (jjM _ _ _ _ ((jhv h).inv h))
theorem jrV {r:Rd} (h:r.Inv):Rd.St r ((jfC r).1.must (⟨#[41]⟩:ByteArray)):=(jjR h).trans (Rd.st_must ((jjR h).inv h) _)
theorem Rd.calls_kind {r:Rd} (h:r.calls=true):r.kind 3=true:=by
 unfold Rd.calls at h
 simp only [Bool.and_eq_true] at h
 exact h.1.1
theorem jjS {r:Rd} (h:r.Inv) (hc:r.calls=true):Rd.St r (je5 r).1∧(je5 r).1.pot+2≤r.pot∧(je5 r).1.rem+1≤r.rem:=by
 have hk:=Rd.kind_kind (Rd.calls_kind hc) (by decide)
 have hn:r.name.1=r.inc:=by unfold Rd.name;rw [if_pos (Rd.calls_kind hc)]
 obtain ⟨s1,e1⟩:=Rd.st_inc h hk.2
 have h1:=s1.inv h
 have s2:Rd.St r.inc ((jfC r).1.must (⟨#[41]⟩:ByteArray)):=by
  have a1:Rd.St r.inc (jhi r):=by unfold jhi;rw [hn];exact Rd.st_must h1 _
  have a2:Rd.St r.inc (jfC r).1:=a1.trans (jjM _ _ _ _ (a1.inv h1))
  exact a2.trans (Rd.st_must (a2.inv h1) _)
 have hp:=s2.pot
 have s3:=Rd.st_put (s1.trans s2) (by omega) 21 r.line 0 r.name.2 (jfC r).2
 refine ⟨s3,?_,?_⟩
 ·show (((jfC r).1.must (⟨#[41]⟩:ByteArray)).node _).pot+2≤_
  rw [Rd.pot_node];omega
 ·refine s3.rem_lt h hk.1 ?_
  have:=s2.i
  exact this
theorem jf0 {r:Rd} (h:r.Inv):Rd.St r (jcw r).1:=by
 unfold jcw
 split
 ·rename_i hs
  obtain ⟨s1,e1⟩:=Rd.st_inc h (Rd.is_kind hs).2
  exact Rd.st_put s1 (by omega) _ _ _ _ _
 split
 ·rename_i hs
  obtain ⟨s1,e1⟩:=Rd.st_inc h (Rd.is_kind hs).2
  have h1:=s1.inv h
  have s2:=Rd.st_must h1 (⟨#[40]⟩:ByteArray)
  have s3:=ja7 (s2.inv h1)
  have s23:=s2.trans s3
  have s4:=s23.trans (Rd.st_must (s23.inv h1) (⟨#[41]⟩:ByteArray))
  exact Rd.st_put (s1.trans s4) (by have:=s4.pot;omega) _ _ _ _ _
 split
 ·rename_i hc;exact (jjS h hc).1
 ·exact ja7 h
theorem jqA {r:Rd} (h:r.Inv) (hs:r.is (⟨#[91]⟩:ByteArray)=true):Rd.St r.down (ptA r).1∧Rd.St r ((ptA r).1.must (⟨#[93]⟩:ByteArray)).up:=by
 have he:=(Rd.is_kind hs).1
 have h1:=(Rd.down_inv h he).1
 have s1:=Rd.st_must h1 (⟨#[91]⟩:ByteArray)
 have s2:=s1.trans (ja7 (s1.inv h1))
 exact ⟨s2,Rd.st_deep h he (s2.trans (Rd.st_must (s2.inv h1) _))⟩
theorem jn0 {r:Rd} (h:r.Inv) (hs:r.is (⟨#[91]⟩:ByteArray)=true):Rd.St r (((ptA r).1.must (⟨#[93]⟩:ByteArray)).up.must (⟨#[61]⟩:ByteArray))∧Rd.St r (ptB r).1:=by
 have s1:=(jqA h hs).2
 have s2:=s1.trans (Rd.st_must (s1.inv h) (⟨#[61]⟩:ByteArray))
 exact ⟨s2,s2.trans (ja7 (s2.inv h))⟩
theorem jqq {r:Rd} (h:r.Inv) (he:r.e=0) (ln:Int):Rd.St r (jex r ln).1∧(jex r ln).1.rem+1≤r.rem:=by
 unfold jex
 have s0:=Rd.st_name h
 have h0:=s0.inv h
 obtain ⟨n1,n2⟩:=Rd.name_lt h he
 -- a name, and what is behind it
 have fin:∀ (q:Rd) k L,Rd.St r.name.1 q→Rd.St r (q.put k ln 0 r.name.2 L).1∧(q.put k ln 0 r.name.2 L).1.rem+1≤r.rem:=fun q k L s=>by
  refine ⟨Rd.st_put (s0.trans s) (by have:=s.pot;omega) _ _ _ _ _,?_⟩
  have:=s.rem
  show q.rem+1≤_
  omega
 split
 ·rename_i hc
  obtain ⟨s1,p1,r1⟩:=jjS h hc
  have s2:=Rd.st_must (s1.inv h) (⟨#[59]⟩:ByteArray)
  refine ⟨Rd.st_put (s1.trans s2) (by have:=s2.pot;omega) _ _ _ _ _,?_⟩
  have:=s2.rem
  show ((je5 r).1.must (⟨#[59]⟩:ByteArray)).rem+1≤_
  omega
 split
 ·rename_i hs
  have s1:=(jn0 h0 hs).2
  exact fin _ _ _ (s1.trans (Rd.st_must (s1.inv h0) _))
 ·have s1:=Rd.st_must h0 (⟨#[61]⟩:ByteArray)
  have s2:=s1.trans (jf0 (s1.inv h0))
  exact fin _ _ _ (s2.trans (Rd.st_must (s2.inv h0) _))
theorem Rd.word_kind {r:Rd} {w:ByteArray} (h:r.word=w) (h0:w≠⟨#[]⟩):r.kind 4=true:=by
 unfold Rd.word at h
 split at h
 ·assumption
 ·exact absurd h.symm h0
theorem jeC:∀ n,(∀ r:Rd,r.Inv→Rd.St r (jbd n r).1)∧(∀ (r:Rd) L,r.Inv→Rd.St r (jcY n r L).1)∧(∀ r:Rd,r.Inv→r.e=0→0 < n→Rd.St r (jga n r).1∧(jga n r).1.rem+1≤r.rem)
 | 0=>⟨fun r h=>by unfold jbd;exact .refl h,fun r L h=>by unfold jcY;exact .refl h,fun r h he hn=>by omega⟩
 | n+1=>by
  obtain ⟨ib,is,it⟩:=jeC n
  refine ⟨fun r h=>?_,fun r L h=>?_,fun r h he _=>?_⟩
  ·unfold jbd
   split
   ·rename_i hs
    have he:=(Rd.is_kind hs).1
    have h1:=(Rd.down_inv h he).1
    have s1:=Rd.st_must h1 (⟨#[123]⟩:ByteArray)
    have s2:=is _ [] (s1.inv h1)
    have s12:=s1.trans s2
    have s3:=Rd.st_must (s12.inv h1) (⟨#[125]⟩:ByteArray)
    have hp:=(Rd.down_must h hs).2
    refine Rd.st_put (Rd.st_deep h he (s12.trans s3)) ?_ _ _ _ _ _
    have:=s2.pot
    have:=s3.pot
    show ((jcY n (r.down.must (⟨#[123]⟩:ByteArray)) []).1.must (⟨#[125]⟩:ByteArray)).pot+1≤_
    omega
   ·exact Rd.st_fails h 20 (by decide)
  ·unfold jcY
   split
   ·rename_i hc
    cases n with
    | zero=>unfold jcY jga;exact .refl h
    | succ n=>
     have s1:=(it r h hc.1 (by omega)).1
     exact s1.trans (is _ _ (s1.inv h))
   ·exact .refl h
  ·-- a word, and what is behind it
   have fin:∀ (w:ByteArray) (q:Rd) k ln nm L,w≠⟨#[]⟩→r.word=w→(r.inc.Inv→Rd.St r.inc q)→Rd.St r (q.put k ln 0 nm L).1∧(q.put k ln 0 nm L).1.rem+1≤r.rem:=fun w q k ln nm L h0 hw s=>by
    have hk:=Rd.kind_kind (Rd.word_kind hw h0) (by decide)
    obtain ⟨s1,e1⟩:=Rd.st_inc h hk.2
    have s2:=s (s1.inv h)
    refine ⟨Rd.st_put (s1.trans s2) (by have:=s2.pot;omega) _ _ _ _ _,?_⟩
    have:=s2.rem
    have:=Rd.rem_inc h hk
    show q.rem+1≤_
    omega
   unfold jga
   split
   ·rename_i hw
    refine fin _ _ _ _ _ _ (by decide) hw fun h1=>?_
    have s1:=Rd.st_name h1
    have s2:=s1.trans (Rd.st_must (s1.inv h1) (⟨#[61]⟩:ByteArray))
    have s3:=s2.trans (jf0 (s2.inv h1))
    exact s3.trans (Rd.st_must (s3.inv h1) _)
   split
   ·rename_i hw
    refine fin _ _ _ _ _ _ (by decide) hw fun h1=>?_
    have s1:=ja7 h1
    exact s1.trans (Rd.st_must (s1.inv h1) _)
   split
   ·rename_i hw
    refine fin _ _ _ _ _ _ (by decide) hw fun h1=>?_
    have s1:=ja7 h1
    exact s1.trans (ib _ (s1.inv h1))
   split
   ·rename_i hw
    split
    ·rename_i hs
     refine fin _ _ _ _ _ _ (by decide) hw fun h1=>?_
     have s1:=ja7 h1
     have s2:=s1.trans (ib _ (s1.inv h1))
     have h2:=s2.inv h1
     have s3:=(Rd.st_inc h2 (Rd.is_kind hs).2).1
     exact (s2.trans s3).trans (ib _ (s3.inv h2))
    ·refine fin _ _ _ _ _ _ (by decide) hw fun h1=>?_
     have s1:=ja7 h1
     exact s1.trans (ib _ (s1.inv h1))
   split
   ·rename_i hw
    split
    ·exact fin _ _ _ _ _ _ (by decide) hw fun h1=>Rd.st_must h1 _
    ·refine fin _ _ _ _ _ _ (by decide) hw fun h1=>?_
     have s1:=ja7 h1
     exact s1.trans (Rd.st_must (s1.inv h1) _)
   ·exact jqq h he _
theorem jjP {r:Rd} (h:r.Inv):Rd.St r (jgj r).1:=(jeC _).1 r h
theorem jmX {r:Rd} (h:jhf r.word≠0):r.e=0∧r.tok.kind≠0:=by
 refine Rd.kind_kind (k:=4) (Rd.word_kind (r:=r) rfl fun e=>?_) (by decide)
 rw [e] at h
 exact h (by decide)
theorem jlT {r:Rd} (h:r.Inv):Rd.St r (jbP r).1:=by
 unfold jbP
 split
 ·exact Rd.st_fails h 20 (by decide)
 ·rename_i ht
  exact (Rd.st_inc h (jmX ht).2).1
theorem jlt {r:Rd} (h:r.Inv):Rd.St r (jez r):=(Rd.st_name h).trans (jlT ((Rd.st_name h).inv h))
theorem jjs:∀ (n:Nat) (b:Bool) (r:Rd) (L:List GParam),r.Inv→Rd.St r (jca n b r L).1
 | 0,_,r,L,h=>by unfold jca;exact .refl h
 | n+1,false,r,L,h=>by unfold jca;exact .refl h
 | n+1,true,r,L,h=>by
  have s1:=jlt h
  have h1:=s1.inv h
  unfold jca
  split
  ·rename_i hs
   have s2:=(Rd.st_inc h1 (Rd.is_kind hs).2).1
   exact (s1.trans s2).trans (jjs n _ _ _ (s2.inv h1))
  ·exact s1
theorem je9 {r:Rd} (h:r.Inv):Rd.St r (r.must (⟨#[102,110]⟩:ByteArray))∧Rd.St r (r.must (⟨#[102,110]⟩:ByteArray)).name.1∧Rd.St r (fnA r)∧Rd.St (r.must (⟨#[102,110]⟩:ByteArray)) (fnA r):=by
 have s1:=Rd.st_must h (⟨#[102,110]⟩:ByteArray)
 have h1:=s1.inv h
 have s2:=Rd.st_name h1
 have s3:=s2.trans (Rd.st_must (s2.inv h1) (⟨#[40]⟩:ByteArray))
 exact ⟨s1,s1.trans s2,s1.trans s3,s3⟩
theorem jpW {r:Rd} (h:r.Inv):Rd.St (r.must (⟨#[102,110]⟩:ByteArray)) (fnB r).1:=(je9 h).2.2.2.trans (jjs _ _ _ _ ((je9 h).2.2.1.inv h))
theorem jnq {r:Rd} (h:r.Inv):Rd.St (r.must (⟨#[102,110]⟩:ByteArray)) (fnC r):=(jpW h).trans (Rd.st_must ((jpW h).inv ((je9 h).1.inv h)) _)
theorem jnr {r:Rd} (h:r.Inv):Rd.St (r.must (⟨#[102,110]⟩:ByteArray)) (fnD r).1:=by
 unfold fnD
 split
 ·exact jnq h
 ·exact (jnq h).trans (jlT ((jnq h).inv ((je9 h).1.inv h)))
theorem jtA {r:Rd} (h:r.Inv):Rd.St r (fnF r).1∧(r.e=0→(fnF r).1.rem+1≤r.rem):=by
 have h1:=(je9 h).1.inv h
 have s:=(jnr h).trans (jjP ((jnr h).inv h1))
 refine ⟨(je9 h).1.trans s,fun he=>?_⟩
 have:=(Rd.must_lt h he (⟨#[102,110]⟩:ByteArray)).1
 have:(jgj (fnD r).1).1.rem≤_:=s.rem
 show (jgj (fnD r).1).1.rem+1≤_
 omega
theorem jiW {s:ByteArray} {a e:Nat} (he:e≤s.size) {j:Nat} (hj:a+j < e):jaL (s.extract a e) (j:Nat)=jaL s ((a+j:Nat):Int):=by
 unfold jaL
 have h1:(s.extract a e).data=s.data.extract a e:=by simp
 rw [h1]
 simp only [Int.toNat_natCast]
 have hs:e≤s.data.size:=he
 rw [Array.getElem?_extract]
 rw [if_pos (by omega)]
theorem jmV {s:ByteArray} {a:Nat} (ha:a < s.size) (h:(jby s a).2.2=0):(jby s a).1.kind≠0∧((jby s a).1.kind=1→jfy (jby s a).1.text):=by
 unfold jby at h ⊢
 split at h<;>rename_i h1
 ·rw [if_pos h1]
  split at h<;>rename_i h2
  ·rw [if_pos h2]
   refine ⟨fun e=>(by cases e),fun _=>?_⟩
   have hb:=(jeV (p:=jbv) (s:=s) (i:=a) (by omega)).2
   have hp:=jeA ha h1
   have hsz:(s.extract a (jcz jbv s a)).size=jcz jbv s a - a:=by rw [ByteArray.size_extract];omega
   refine ⟨by show 0 < (s.extract a (jcz jbv s a)).size;omega,h2,fun j hj=>?_⟩
   have hj:j < (s.extract a (jcz jbv s a)).size:=hj
   show jbv (jaL (s.extract a (jcz jbv s a)) j)=true
   rw [jiW hb (by omega)]
   exact jlN (n:=s.size+1) (i:=a) (by omega) (by show _ < jcz jbv s a;omega)
  ·cases h
 ·rw [if_neg h1]
  split at h<;>rename_i h2
  ·rw [if_pos h2]
   split at h<;>rename_i h3
   ·rw [if_pos h3];exact ⟨fun e=>(by cases e),fun e=>(by cases e)⟩
   ·rw [if_neg h3]
    split at h<;>rename_i h4
    ·cases h
    ·rw [if_neg h4];exact ⟨fun e=>(by cases e),fun e=>(by cases e)⟩
  ·rw [if_neg h2]
   split at h<;>rename_i h3
   ·rw [if_pos h3];exact ⟨fun e=>(by cases e),fun e=>(by cases e)⟩
   ·rw [if_neg h3]
    split at h<;>rename_i h4
    ·cases h
    ·rw [if_neg h4];exact ⟨fun e=>(by cases e),fun e=>(by cases e)⟩
def jt8 (t:GToken):Prop:=t.kind≠0∧(t.kind=1→jfy t.text)
theorem jqf (s:ByteArray):∀ (n i:Nat) (out:List GToken),s.size < n+i→i≤s.size→(jke s n i out).2.2=0→out.length≤i→(∀ t∈out,jt8 t)→∃ ts,(jke s n i out).1=ts++[⟨0,⟨#[]⟩,s.size⟩]∧ts.length≤s.size∧∀ t∈ts,jt8 t
 | 0,i,out,h1,h2,_,_,_=>by omega
 | n+1,i,out,h1,h2,he,hl,ho=>by
  unfold jke at he ⊢
  split at he<;>rename_i hi
  ·rw [if_pos hi]
   split at he<;>rename_i h3
   ·rw [if_pos h3]
    obtain ⟨e,h4,h5,h6⟩:=je0 hi h3
    rw [h4,Int.toNat_natCast] at he ⊢
    have:=jjD (s:=s) (i:=e) h6
    refine jqf s n _ _ (by omega) this.2 he (by rw [List.length_append];simp;omega) fun t ht=>?_
    rcases List.mem_append.1 ht with ht | ht
    ·exact ho t ht
    ·rw [List.mem_singleton.1 ht];exact jmV hi h3
   ·exact (h3 he).elim
  ·rw [if_neg hi]
   exact ⟨out,rfl,by omega,ho⟩
theorem jqc {s:ByteArray} (he:(jcf s).2.2=0):s.size≤600∧∃ ts,(jcf s).1=ts++[⟨0,⟨#[]⟩,s.size⟩]∧ts.length≤s.size∧∀ t∈ts,jt8 t:=by
 unfold jcf at he ⊢
 split at he<;>rename_i h
 ·cases he
 ·rw [if_neg h]
  have h0:=jjD (s:=s) (i:=0) (Nat.zero_le _)
  exact ⟨by omega,jqf s (s.size+1) _ _ (by omega) h0.2 he (by simp) fun t ht=>by simp at ht⟩
theorem jkj {α:Type} [Inhabited α] {l m:List α} {k:Nat} (h:k < l.length):nth (l++m) k=nth l k:=by
 simp only [nth,List.getD_eq_getElem?_getD,List.getElem?_append_left h]
theorem jaP {α:Type} [Inhabited α] {l:List α} {k:Nat} (h:k < l.length):nth l k∈l:=by
 rw [jbl h];exact List.getElem_mem h
theorem jqP {s:ByteArray} (he:(jcf s).2.2=0):(rd0 s).Inv:=by
 obtain ⟨h0,ts,h1,h2,h3⟩:=jqc he
 have hl:(rd0 s).l=ts++[⟨0,⟨#[]⟩,s.size⟩]:=h1
 have hn:(rd0 s).l.length=ts.length+1:=by rw [hl];simp
 have hlast:nth (ts++[⟨0,⟨#[]⟩,s.size⟩]:List GToken) ts.length=⟨0,⟨#[]⟩,s.size⟩:=by
  simp [nth]
 refine ⟨by show s.size≤1000;omega,Int.le_refl _,by show (0:Int) < _;omega,by omega,fun k hk hk1=>?_,fun k hk hk1=>?_,Int.le_refl _,by show (0:Int)≤17;decide,fun _=>by show (0:Int)≤16;decide,?_⟩
 ·rw [hl] at hk1 ⊢
  by_cases e:k < ts.length
  ·rw [jkj e] at hk1 ⊢
   exact (h3 _ (jaP e)).2 hk1
  ·have:k=ts.length:=by omega
   subst this
   rw [hlast] at hk1
   cases hk1
 ·by_cases e:k < ts.length
  ·omega
  ·have:k=ts.length:=by omega
   subst this
   rw [hl,hlast] at hk1
   exact (hk1 rfl).elim
 ·show ((0:Nat):Int)+3 * ((rd0 s).l.length - 0)+1≤8000
  omega
end Go.Gd

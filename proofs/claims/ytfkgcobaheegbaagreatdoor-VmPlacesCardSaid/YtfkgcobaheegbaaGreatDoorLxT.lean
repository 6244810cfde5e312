/- Lemmas. No conditions. -/
import Derived.Test.YtfkgcobaheegbaaGreatDoorGdY
set_option linter.all false
namespace Go.Gd
open Go
abbrev sE:ByteArray:=⟨#[]⟩
def vI(n:Int):ak:=⟨1,n,sE⟩
def vB(b:Bool):ak:=⟨2,if b=true then 1 else 0,sE⟩
def vT(s:ByteArray):ak:=⟨3,0,s⟩
def vZ(t:Int):ak:=⟨t,0,sE⟩
def v0:ak:=⟨0,0,sE⟩
def jU(v:ak):Bool:=
 if v.ty=1 then decide (v.s=sE)
 else if v.ty=2 then decide (v.s=sE) && (decide (v.n=0) || decide (v.n=1))
 else if v.ty=3 then decide (v.n=0) && decide ((v.s.size:Int)<=40)
 else if v.ty=4 then decide (v.s=sE) && decide (0<=v.n)
 else false
def s9(sign:ByteArray)(a b:Int):ak×Int:=
 if sign=(⟨#[43]⟩:ByteArray)then(vI (IntKind.i64.wrap (a+b)),0)
 else if sign=(⟨#[45]⟩:ByteArray)then(vI (IntKind.i64.wrap (a-b)),0)
 else if sign=(⟨#[42]⟩:ByteArray)then(vI (IntKind.i64.wrap (a*b)),0)
 else if sign=(⟨#[47]⟩:ByteArray)then(if b=0 then(v0,1)else(vI (IntKind.i64.wrap (a.tdiv b)),0))
 else if sign=(⟨#[37]⟩:ByteArray)then(if b=0 then(v0,1)else(vI (a.tmod b),0))
 else if sign=(⟨#[60]⟩:ByteArray)then(vB (decide (a<b)),0)
 else if sign=(⟨#[60,61]⟩:ByteArray)then(vB (decide (a<=b)),0)
 else(v0,0)
def ki(sign:ByteArray)(a b:ak):ak×Int:=
 if a.ty≠b.ty\/a.ty<1\/4<a.ty then(v0,0)
 else if sign=(⟨#[61,61]⟩:ByteArray)then(vB (decide (a.n=b.n) && decide (a.s=b.s)),0)
 else if sign=(⟨#[33,61]⟩:ByteArray)then(vB (!(decide (a.n=b.n) && decide (a.s=b.s))),0)
 else if a.ty=1 then s9 sign a.n b.n
 else if a.ty=2 then(if sign=(⟨#[124,124]⟩:ByteArray)then(vB (decide (a.n=1) || decide (b.n=1)),0)else if sign=(⟨#[38,38]⟩:ByteArray)then(vB (decide (a.n=1) && decide (b.n=1)),0)else(v0,0))
 else if a.ty=3 then(if sign=(⟨#[43]⟩:ByteArray)then(if(a.s.size:Int)+b.s.size>40 then(v0,6)else(vT (a.s++b.s),0))else(v0,0))
 else(v0,0)
def kI(sign:ByteArray)(a:ak):ak:=
 if sign=(⟨#[45]⟩:ByteArray)/\a.ty=1 then vI (IntKind.i64.wrap (-a.n))
 else if sign=(⟨#[33]⟩:ByteArray)/\a.ty=2 then vB (!decide (a.n=1))
 else v0
def jd(n:Int):Bool:=decide (48<=n) && decide (n<=57)
def wD(n:Int):Bool:=(decide (97<=n) && decide (n<=122)) || (decide (65<=n) && decide (n<=90))
def wB(s:ByteArray):Bool:=decide ((s.size:Int)<19) || (decide ((s.size:Int)=19) && (Op.bytesLess s.toList (⟨#[57,50,50,51,51,55,50,48,51,54,56,53,52,55,55,53,56,48,55]⟩:ByteArray).toList || decide (s=(⟨#[57,50,50,51,51,55,50,48,51,54,56,53,52,55,55,53,56,48,55]⟩:ByteArray))))
def oq(s:ByteArray):Nat->Int
 |0=>1
 |k+1=>if ec s k=10 then oq s k+1 else oq s k
theorem GM(s:ByteArray):∀k,1<=oq s k/\oq s k<=k+1
 |0=>by simp[oq]
 |k+1=>by
  have:=GM s k;unfold oq;split<;>omega
def fI:List ByteArray:=[(⟨#[102,110]⟩:ByteArray),(⟨#[108,101,116]⟩:ByteArray),(⟨#[105,102]⟩:ByteArray),(⟨#[101,108,115,101]⟩:ByteArray),(⟨#[119,104,105,108,101]⟩:ByteArray),(⟨#[114,101,116,117,114,110]⟩:ByteArray),(⟨#[112,114,105,110,116]⟩:ByteArray),(⟨#[105,110,112,117,116]⟩:ByteArray),(⟨#[110,101,119]⟩:ByteArray),(⟨#[108,101,110]⟩:ByteArray),(⟨#[116,114,117,101]⟩:ByteArray),(⟨#[102,97,108,115,101]⟩:ByteArray),(⟨#[105,110,116]⟩:ByteArray),(⟨#[98,111,111,108]⟩:ByteArray),(⟨#[116,101,120,116]⟩:ByteArray),(⟨#[108,105,115,116]⟩:ByteArray)]
theorem L9:fI.length=16:=rfl
def uD(s:ByteArray):Bool:=fI.any fun t=>decide (t=s)
-- the first one
theorem yz{α:Type}[Inhabited α]{p:α->Bool}:∀{l:List α} {k:Nat},(∀j,j<k->p (nth l j)=false)->k<l.length->p (nth l k)=true->l.find? p=some (nth l k)
 |[],k,_,h,_=>by simp at h
 |x::l,0,_,_,hp=>by
  have:p x=true:=hp;rw[List.find?_cons,this];rfl
 |x::l,k+1,h,hk,hp=>by
  have h0:p x=false:=h 0 jB;rw[List.find?_cons,h0];exact yz (fun j hj=>h (j+1) jB) (by simpa using hk) hp
theorem Bu{α:Type}[Inhabited α]{p:α->Bool}{l:List α}(h:∀j,j<l.length->p (nth l j)=false):l.find? p=none:=by
 rw[List.find?_eq_none];intro x hx;obtain⟨j,hj,rfl⟩:=List.getElem_of_mem hx;have:=h j hj;rw[dN hj]at this;simp[this]
theorem B1{n k:Nat}(h:k<n):nth (List.range n) k=k:=by simp[nth,h]
-- bytes of which p holds
def pz(p:Int->Bool)(s:ByteArray):Nat->Nat->Nat
 |0,i=>i
 |n+1,i=>if i<s.size/\p (ec s i)=true then pz p s n (i+1)else i
def ii(p:Int->Bool)(s:ByteArray)(i:Nat):Nat:=pz p s (s.size+1) i
theorem FF{p:Int->Bool}{s:ByteArray}{k:Nat}(hstop:¬(k<s.size/\p (ec s k)=true)):∀{n i:Nat},i<=k->k<n+i->(∀j,i<=j->j<k->j<s.size/\p (ec s j)=true)->pz p s n i=k
 |0,i,h1,h2,_=>by omega
 |n+1,i,h1,h2,h3=>by
  unfold pz;by_cases e:i=k
  ·subst e;rw[if_neg hstop]
  ·rw[if_pos (h3 i jl jB)]
   exact FF hstop jB jB fun j hj=>h3 j jB
variable{p:Int->Bool}{s:ByteArray}{i:Nat}
theorem xa{k:Nat}(hstop:¬(k<s.size/\p (ec s k)=true))(h1:i<=k)(hk:k<=s.size)(h3:∀j,i<=j->j<k->p (ec s j)=true):ii p s i=k:=
 FF hstop h1 jB fun j hj hjk=>⟨jB,h3 j hj hjk⟩
theorem x8{p:Int->Bool}{s:ByteArray}:∀{n i:Nat},i<=pz p s n i/\(i<=s.size->pz p s n i<=s.size)
 |0,i=>⟨Nat.le_refl _,id⟩
 |n+1,i=>by
  unfold pz;split
  ·have:=x8 (p:=p) (s:=s) (n:=n) (i:=i+1)
   exact⟨jB,fun _=>this.2 jB⟩
  ·exact⟨Nat.le_refl _,id⟩
theorem ub(h:i<=s.size):i<=ii p s i/\ii p s i<=s.size:=⟨x8.1,x8.2 h⟩
theorem vn(h:i<s.size)(hp:p (ec s i)=true):i<ii p s i:=by
 unfold ii;unfold pz;rw[if_pos ⟨h,hp⟩];have:=(x8 (p:=p) (s:=s) (n:=s.size) (i:=i+1)).1;omega
theorem DJ{p:Int->Bool}{s:ByteArray}:∀{n i j:Nat},i<=j->j<pz p s n i->p (ec s j)=true
 |0,i,j,h1,h2=>by unfold pz at h2;omega
 |n+1,i,j,h1,h2=>by
  unfold pz at h2;split at h2
  ·rename_i h
   by_cases e:j=i
   ·subst e;exact h.2
   ·exact DJ jB h2
  ·omega
-- jV between tokens
def xP(c:Int):Bool:=decide (c=32) || decide (c=9) || decide (c=13) || decide (c=10)
def yP(s:ByteArray)(i:Nat):Bool:=decide (ec s i=47) && decide (i+1<s.size) && decide (ec s (i+1:Nat)=47)
def rE(c:Int):Bool:=decide (c≠10)
def lN(s:ByteArray)(i:Nat):Option Nat:=if i<s.size then(if xP (ec s i)=true then some (i+1)else if yP s i=true then some (ii rE s i)else none)else none
def mv(s:ByteArray):Nat->Nat->Nat
 |0,i=>i
 |n+1,i=>match lN s i with
  |some j=>mv s n j
  |none=>i
theorem xN{j:Nat}(h:lN s i=some j):i<j/\j<=s.size:=by
 unfold lN at h;split at h
 ·rename_i hi
  split at h
  ·cases h;omega
  ·split at h
   ·rename_i hc
    cases h;have hne:rE (ec s i)=true:=by
     simp only[yP,Bool.and_eq_true,decide_eq_true_eq]at hc;simp[rE,hc.1.1]
    exact⟨vn hi hne,(ub jB).2⟩
   ·cases h
 ·cases h
theorem Ej(s:ByteArray):∀(n m i:Nat),s.size<n+i->s.size<m+i->mv s n i=mv s m i
 |0,0,i,_,_=>rfl
 |0,m+1,i,h,_=>by
  unfold mv;have:lN s i=none:=by unfold lN;rw[jN]
  rw[this]
 |n+1,0,i,_,h=>by
  unfold mv;have:lN s i=none:=by unfold lN;rw[jN]
  rw[this]
 |n+1,m+1,i,h1,h2=>by
  unfold mv;cases e:lN s i with
  |none=>rfl
  |some j=>
   have:=xN e;exact Ej s n m j jB jB
def og(s:ByteArray)(i:Nat):Nat:=mv s (s.size+1) i
theorem EK{j:Nat}(h:lN s i=some j):og s i=og s j:=by
 have:=xN h;show mv s (s.size+1) i=mv s (s.size+1) j;rw[mv,h];exact Ej s _ _ j jB jB
theorem Gp(h:lN s i=none):og s i=i:=by
 show mv s (s.size+1) i=i;rw[mv,h]
theorem Bj{s:ByteArray}:∀{n i:Nat},i<=mv s n i/\(i<=s.size->mv s n i<=s.size)
 |0,i=>⟨Nat.le_refl _,id⟩
 |n+1,i=>by
  unfold mv;cases e:lN s i with
  |none=>exact⟨Nat.le_refl _,id⟩
  |some j=>
   have h1:=xN e;have h2:=Bj (s:=s) (n:=n) (i:=j);exact⟨by simp only;omega,fun _=>h2.2 h1.2⟩
theorem ug(h:i<=s.size):i<=og s i/\og s i<=s.size:=⟨Bj.1,Bj.2 h⟩
-- tokens
def tR(c:Int):Bool:=decide (32<=c) && decide (c<=126) && decide (c≠34)
def nR(s:ByteArray)(a:Nat):ByteArray×Int×Int:=
 let i:=ii tR s (a+1)
 if i<s.size/\ec s i=34 then(if(i:Int)-a-1>12 then(⟨#[]⟩,a,4)else(s.extract (a+1) i,(i:Int)+1,0))else(⟨#[]⟩,a,11)
def iK:List ByteArray:=[(⟨#[124,124]⟩:ByteArray),(⟨#[38,38]⟩:ByteArray),(⟨#[60,61]⟩:ByteArray),(⟨#[61,61]⟩:ByteArray),(⟨#[33,61]⟩:ByteArray)]
def gV:ByteArray:=(⟨#[40,41,123,125,91,93,44,59,61,60,43,45,42,47,37,33]⟩:ByteArray)
def pN(s t:ByteArray):Bool:=decide (2<=(s.size:Int)) && decide (s.extract 0 2=t)
def nw(s:ByteArray):ByteArray:=match iK.find? (pN s)with
 |some t=>t
 |none=>match (List.range 16).find? fun k:Nat=>decide (ec s 0=ec gV (k:Nat))with
  |some k=>gV.extract k (k+1)
  |none=>⟨#[]⟩
def oS(c:Int):Bool:=wD c || jd c || decide (c=95)
theorem Mo{b:ByteArray}(h:b.size=0):b=⟨#[]⟩:=by
 obtain⟨d⟩:=b;have:d=#[]:=Array.size_eq_zero_iff.1 h;rw[this]
def tV:cd:=⟨0,⟨#[]⟩,0⟩
def gB(s:ByteArray)(a:Nat):cd×Int×Int:=
 if jd (ec s a)=true then
  (if wB (s.extract a (ii jd s a))=true then(⟨1,s.extract a (ii jd s a),a⟩,(ii jd s a:Nat),0)else(tV,a,12))
 else if wD (ec s a)=true then
  (if uD (s.extract a (ii oS s a))=true then(⟨4,s.extract a (ii oS s a),a⟩,(ii oS s a:Nat),0)
  else if((s.extract a (ii oS s a)).size:Int)>8 then(tV,a,13)else(⟨3,s.extract a (ii oS s a),a⟩,(ii oS s a:Nat),0))
 else if ec s a=34 then(⟨2,(nR s a).1,a⟩,(nR s a).2.1,(nR s a).2.2)
 else if nw (s.extract a s.size)=⟨#[]⟩then(tV,a,10)
 else(⟨5,nw (s.extract a s.size),a⟩,a+(nw (s.extract a s.size)).size,0)
theorem IQ(s:ByteArray):(nw s).size<=2:=by
 unfold nw;cases h:iK.find? (pN s)with
 |some t=>
  have hm:=List.mem_of_find?_eq_some h;have:∀t∈iK,t.size<=2:=jC
  exact this t hm
 |none=>
  cases h2:(List.range 16).find? fun k:Nat=>decide (ec s 0=ec gV (k:Nat))with
  |some k=>
   simp only;rw[ByteArray.size_extract];omega
  |none=>decide
theorem NA{t:ByteArray}(h:iK.find? (pN s)=some t):t.size=2/\2<=s.size:=by
 have hm:=List.mem_of_find?_eq_some h;have hp:=List.find?_some h;have:∀t∈iK,t.size=2:=jC
 simp only[pN,Bool.and_eq_true,decide_eq_true_eq]at hp;exact⟨this t hm,jB⟩
theorem HK(hs:0<s.size):(nw s).size<=s.size:=by
 unfold nw;cases h:iK.find? (pN s)with
 |some t=>have:=NA h;simp only;omega
 |none=>
  cases h2:(List.range 16).find? fun k:Nat=>decide (ec s 0=ec gV (k:Nat))with
  |some k=>
   simp only;rw[ByteArray.size_extract];omega
  |none=>exact Nat.zero_le _
theorem xB{a:Nat}(ha:a<s.size)(h:(gB s a).2.2=0):∃e:Nat,(gB s a).2.1=e/\a<e/\e<=s.size:=by
 unfold gB at h ⊢;split at h<;>rename_i h1
 ·rw[if_pos h1]at*
  split at h<;>rename_i h2
  ·rw[if_pos h2];exact⟨_,rfl,vn ha h1,(ub jB).2⟩
  ·cases h
 ·rw[if_neg h1]at*
  split at h<;>rename_i h2
  ·rw[if_pos h2]
   have hw:oS (ec s a)=true:=by simp[oS,h2]
   split at h<;>rename_i h3
   ·rw[if_pos h3];exact⟨_,rfl,vn ha hw,(ub jB).2⟩
   ·rw[if_neg h3]
    split at h<;>rename_i h4
    ·cases h
    ·rw[if_neg h4];exact⟨_,rfl,vn ha hw,(ub jB).2⟩
  ·rw[if_neg h2]
   split at h<;>rename_i h3
   ·rw[if_pos h3]
    have hb:=ub (p:=tR) (s:=s) (i:=a+1) jB;simp only[nR]at h ⊢;split at h<;>rename_i h4
    ·rw[if_pos h4]
     split at h<;>rename_i h5
     ·cases h
     ·rw[if_neg h5];exact⟨ii tR s (a+1)+1,jE,jB,jB⟩
    ·cases h
   ·rw[if_neg h3]
    split at h<;>rename_i h4
    ·cases h
    ·rw[if_neg h4]
     have hsz:(s.extract a s.size).size=s.size-a:=by rw[ByteArray.size_extract];omega
     have hle:=HK (s:=s.extract a s.size) jB;have hpos:0<(nw (s.extract a s.size)).size:=by
      rcases Nat.eq_zero_or_pos (nw (s.extract a s.size)).size with e|e
      ·exact(h4 (Mo e)).elim
      ·exact e
     exact⟨a+(nw (s.extract a s.size)).size,jE,jB,jB⟩
def lf(s:ByteArray):Nat->Nat->List cd->List cd×Int×Int
 |0,_,out=>(out,0,0)
 |n+1,i,out=>if i<s.size then
   (if(gB s i).2.2=0 then lf s n (og s (gB s i).2.1.toNat) (out++[(gB s i).1])else([],((i:Nat):Int),(gB s i).2.2))
  else(out++[⟨0,⟨#[]⟩,s.size⟩],0,0)
theorem Hl(s:ByteArray):∀(n m i:Nat) (out:List cd),s.size<n+i->s.size<m+i->i<=s.size->lf s n i out=lf s m i out
 |0,_,i,_,h,_,h3=>by omega
 |_,0,i,_,_,h,h3=>jB
 |n+1,m+1,i,out,h1,h2,h3=>by
  unfold lf;split
  ·rename_i hi
   split
   ·rename_i he
    obtain⟨e,h4,h5,h6⟩:=xB hi he;rw[h4,Int.toNat_natCast];have:=ug (s:=s) (i:=e) h6;exact Hl s n m _ _ jB jB this.2
   ·rfl
  ·rfl
def uu(s:ByteArray)(i:Nat)(out:List cd):List cd×Int×Int:=lf s (s.size+1) i out
theorem JO{out:List cd}(hi:i<s.size)(he:(gB s i).2.2=0):uu s i out=uu s (og s (gB s i).2.1.toNat) (out++[(gB s i).1]):=by
 show lf s (s.size+1) i out=lf s (s.size+1) _ _;rw[lf,if_pos hi,if_pos he];obtain⟨e,h4,h5,h6⟩:=xB hi he;rw[h4,Int.toNat_natCast];have:=ug (s:=s) (i:=e) h6;exact Hl s _ _ _ _ jB jB this.2
theorem MW{out:List cd}(hi:i<s.size)(he:(gB s i).2.2≠0):uu s i out=([],((i:Nat):Int),(gB s i).2.2):=by
 show lf s (s.size+1) i out=_;rw[lf,if_pos hi,if_neg he]
theorem Il{out:List cd}(hi:¬i<s.size):uu s i out=(out++[⟨0,⟨#[]⟩,s.size⟩],0,0):=by
 show lf s (s.size+1) i out=_;rw[lf,if_neg hi]
def j4(s:ByteArray):List cd×Int×Int:=if(s.size:Int)>600 then([],0,4)else uu s (og s 0) []
structure Rd where
 src:ByteArray
 l:List cd
 i:Int
 nodes:List bh
 deep:Int
 e:Int
 at_:Int
 deriving Inhabited
namespace Rd
def tok(r:Rd):cd:=nth r.l r.i.toNat
def aE(r:Rd)(e:Int):Rd:=if r.e=0 then{ r with e:=e,at_:=r.tok.at_ }else r
def is(r:Rd)(t:ByteArray):Bool:=decide (r.e=0) && (decide (r.tok.kind=5) || decide (r.tok.kind=4)) && decide (r.tok.text=t)
def kind(r:Rd)(k:Int):Bool:=decide (r.e=0) && decide (r.tok.kind=k)
def inc(r:Rd):Rd:={ r with i:=r.i+1 }
def aq(r:Rd)(t:ByteArray):Rd:=if r.is t=true then r.inc else r.aE 20
def name(r:Rd):Rd×ByteArray:=if r.kind 3=true then(r.inc,r.tok.text)else(r.aE 20,⟨#[]⟩)
def cu(r:Rd):Int:=oq r.src (min r.src.size r.tok.at_.toNat)
def node(r:Rd)(n:bh):Rd:={ r with nodes:=r.nodes++[n] }
def put(r:Rd)(k ln n:Int)(nm:ByteArray)(L:List Int):Rd×Int:=(r.node ⟨k,ln,n,nm,L⟩,r.nodes.length)
def down(r:Rd):Rd:={ (if 16<=r.deep then r.aE 21 else r)with deep:=r.deep+1 }
def up(r:Rd):Rd:={ r with deep:=r.deep-1 }
end Rd
def mA(level:Int):List ByteArray:=
 if level=0 then[(⟨#[124,124]⟩:ByteArray)]else if level=1 then[(⟨#[38,38]⟩:ByteArray)]else if level=2 then[(⟨#[60]⟩:ByteArray),(⟨#[60,61]⟩:ByteArray),(⟨#[61,61]⟩:ByteArray),(⟨#[33,61]⟩:ByteArray)]else if level=3 then[(⟨#[43]⟩:ByteArray),(⟨#[45]⟩:ByteArray)]else[(⟨#[42]⟩:ByteArray),(⟨#[47]⟩:ByteArray),(⟨#[37]⟩:ByteArray)]
namespace Rd
section
variable (r:Rd)(e:Int)
@[go_sem] theorem Cb:(r.aE e).src=r.src:=by unfold aE;split<;>rfl
@[go_sem] theorem gk:(r.aE e).l=r.l:=by unfold aE;split<;>rfl
@[go_sem] theorem uP:(r.aE e).i=r.i:=by unfold aE;split<;>rfl
@[go_sem] theorem dt:(r.aE e).nodes=r.nodes:=by unfold aE;split<;>rfl
@[go_sem] theorem HC:(r.aE e).deep=r.deep:=by unfold aE;split<;>rfl
end
section
variable (r:Rd)
@[go_sem] theorem j4B:r.inc.src=r.src:=(rfl)
@[go_sem] theorem j9V:r.inc.l=r.l:=(rfl)
@[go_sem] theorem j9U:r.inc.i=r.i+1:=(rfl)
@[go_sem] theorem j0U:r.inc.nodes=r.nodes:=(rfl)
@[go_sem] theorem j29:r.inc.deep=r.deep:=(rfl)
@[go_sem] theorem j9T:r.inc.e=r.e:=(rfl)
@[go_sem] theorem j7d:r.inc.at_=r.at_:=(rfl)
@[go_sem] theorem j7U:r.up.src=r.src:=(rfl)
@[go_sem] theorem qaX:r.up.l=r.l:=(rfl)
@[go_sem] theorem qaW:r.up.i=r.i:=(rfl)
@[go_sem] theorem j3p:r.up.nodes=r.nodes:=(rfl)
@[go_sem] theorem j4T:r.up.deep=r.deep-1:=(rfl)
@[go_sem] theorem qaV:r.up.e=r.e:=(rfl)
@[go_sem] theorem qaB:r.up.at_=r.at_:=(rfl)
end
def next(r:Rd)(level:Int):ByteArray:=match (mA level).find? (fun s=>r.is s)with
 |some s=>s
 |none=>⟨#[]⟩
def nn(r:Rd):cd:=nth r.l (r.i+1).toNat
def calls(r:Rd):Bool:=r.kind 3 && decide (r.nn.kind=5) && decide (r.nn.text=(⟨#[40]⟩:ByteArray))
def word(r:Rd):ByteArray:=if r.kind 4=true then r.tok.text else⟨#[]⟩
end Rd
def wm(s:ByteArray):Nat->Int
 |0=>0
 |k+1=>wm s k*10+(ec s k-48)
def pq(s:ByteArray):Int:=wm s s.size
mutual
def p8:Nat->Rd->Rd×Int
 |0,r=>(r,0)
 |n+1,r=>
  if r.e≠0 then(r,0)
  else if r.tok.kind=1 then r.inc.put 1 r.cu (pq r.tok.text) ⟨#[]⟩ []
  else if r.tok.kind=2 then r.inc.put 3 r.cu 0 r.tok.text []
  else if r.tok.kind=3 then
   (if r.inc.is (⟨#[91]⟩:ByteArray)=true then
    (((dJ n 0 (r.inc.down.aq (⟨#[91]⟩:ByteArray))).1.aq (⟨#[93]⟩:ByteArray)).up).put 5 r.cu 0 r.tok.text [(dJ n 0 (r.inc.down.aq (⟨#[91]⟩:ByteArray))).2]
   else r.inc.put 4 r.cu 0 r.tok.text [])
  else if r.is (⟨#[116,114,117,101]⟩:ByteArray)=true then r.inc.put 2 r.cu 1 ⟨#[]⟩ []
  else if r.is (⟨#[102,97,108,115,101]⟩:ByteArray)=true then r.inc.put 2 r.cu 0 ⟨#[]⟩ []
  else if r.is (⟨#[108,101,110]⟩:ByteArray)=true then
   (if r.inc.is (⟨#[40]⟩:ByteArray)=true then
    (((dJ n 0 (r.inc.down.aq (⟨#[40]⟩:ByteArray))).1.aq (⟨#[41]⟩:ByteArray)).up).put 6 r.cu 0 ⟨#[]⟩ [(dJ n 0 (r.inc.down.aq (⟨#[40]⟩:ByteArray))).2]
   else(r.inc.aE 20,0))
  else if r.is (⟨#[40]⟩:ByteArray)=true then
   (((dJ n 0 (r.down.aq (⟨#[40]⟩:ByteArray))).1.aq (⟨#[41]⟩:ByteArray)).up,(dJ n 0 (r.down.aq (⟨#[40]⟩:ByteArray))).2)
  else(r.aE 20,0)
def gW:Nat->Rd->Rd×Int
 |0,r=>(r,0)
 |n+1,r=>
  if r.is (⟨#[45]⟩:ByteArray)=true then((gW n r.down.inc).1.up).put 7 r.cu 0 ⟨#[]⟩ [(gW n r.down.inc).2]
  else if r.is (⟨#[33]⟩:ByteArray)=true then((gW n r.down.inc).1.up).put 8 r.cu 0 ⟨#[]⟩ [(gW n r.down.inc).2]
  else p8 n r
def dJ:Nat->Nat->Rd->Rd×Int
 |0,_,r=>(r,0)
 |n+1,lv,r=>if lv=5 then gW n r else nX n lv r.cu (dJ n (lv+1) r)
def nX:Nat->Nat->Int->Rd×Int->Rd×Int
 |0,_,_,p=>p
 |n+1,lv,ln,p=>
  if p.1.next lv=⟨#[]⟩then p
  else if lv=2 then((dJ n (lv+1) p.1.inc).1).put 9 ln 0 (p.1.next lv) [p.2,(dJ n (lv+1) p.1.inc).2]
  else nX n lv ln (((dJ n (lv+1) p.1.inc).1).put 9 ln 0 (p.1.next lv) [p.2,(dJ n (lv+1) p.1.inc).2])
end
-- what is kept
def Rd.rem(r:Rd):Nat:=if r.e=0 then(r.l.length-r.i).toNat else 0
def Rd.dw(r:Rd):Int:=r.nodes.length+3*(r.l.length-r.i)+if r.e=0 then 1 else 0
def qs(s:ByteArray):Prop:=0<s.size/\wB s=true/\∀j,j<s.size->jd (ec s j)=true
structure Rd.Inv(r:Rd):Prop where
 src:r.src.size<=1000
 pos:0<=r.i
 lt:r.i<r.l.length
 len:r.l.length<=2000
 num:∀k,k<r.l.length->(nth r.l k).kind=1->qs (nth r.l k).text
 tk:∀k,k<r.l.length->(nth r.l k).kind≠0->k+1<r.l.length
 ou:0<=r.deep
 pi:r.deep<=17
 Nz:r.e=0->r.deep<=16
 dw:r.dw<=8000
structure Rd.St(r r':Rd):Prop where
 src:r'.src=r.src
 l:r'.l=r.l
 deep:r'.deep=r.deep
 i:r.i<=r'.i
 lt:r'.i<r.l.length
 dw:r'.dw<=r.dw
 err:r.e≠0->r'.e≠0
variable{r r':Rd}
theorem Rd.St.inv(s:Rd.St r r')(h:r.Inv):r'.Inv:=by
 obtain⟨s1,s2,s3,s4,s5,s6,s7⟩:=s;obtain⟨h1,h2,h3,h4,hn,h5,h6,h7,h8,h9⟩:=h;exact⟨by rw[s1];exact h1,jB,by rw[s2];exact s5,by rw[s2];exact h4,by rw[s2];exact hn,by rw[s2];exact h5,jB,jB,fun h=>by
  rw[s3];exact h8 (Classical.byContradiction fun e=>s7 e h),jB⟩
theorem Rd.St.refl(h:r.Inv):Rd.St r r:=⟨rfl,rfl,rfl,Int.le_refl _,h.lt,Int.le_refl _,id⟩
theorem Rd.St.trans{a b c:Rd}(h:Rd.St a b)(k:Rd.St b c):Rd.St a c:=
 ⟨k.src.trans h.src,k.l.trans h.l,k.deep.trans h.deep,Int.le_trans h.i k.i,by have:=k.lt;rw[h.l]at this;exact this,Int.le_trans k.dw h.dw,fun e=>k.err (h.err e)⟩
theorem Rd.St.rem{r r':Rd}(s:Rd.St r r'):r'.rem<=r.rem:=by
 unfold Rd.rem;have h1:=s.i;have h2:=s.l;by_cases e:r.e=0
 ·rw[if_pos e,h2]
  split<;>omega
 ·rw[if_neg e,if_neg (s.err e)];exact Nat.le_refl _
theorem Rd.behind(h:r.Inv)(hk:r.tok.kind≠0):r.i+1<r.l.length:=by
 have:=h.tk r.i.toNat (by have:=h.lt;have:=h.pos;omega) hk;have:=h.pos;omega
variable{t:ByteArray}
theorem Rd.aT(h:r.is t=true):r.e=0/\r.tok.kind≠0:=by
 simp only[Rd.is,Bool.and_eq_true,Bool.or_eq_true,decide_eq_true_eq]at h;exact⟨h.1.1,by rcases h.1.2 with h|h<;>omega⟩
theorem Rd.du{k:Int}(h:r.kind k=true)(h0:k≠0):r.e=0/\r.tok.kind≠0:=by
 simp only[Rd.kind,Bool.and_eq_true,decide_eq_true_eq]at h;exact⟨h.1,jB⟩
theorem Rd.fv(h:r.Inv)(e:Int)(he:e≠0):Rd.St r (r.aE e):=by
 refine⟨Cb _ _,gk _ _,HC _ _,by rw[uP];exact Int.le_refl _,by rw[uP];exact h.lt,?_,fun h1=>by unfold aE;rw[if_neg h1];exact h1⟩;unfold Rd.dw;rw[dt,gk,uP];by_cases e0:r.e=0
 ·have:(r.aE e).e=e:=by unfold aE;rw[if_pos e0]
  rw[this,if_pos e0,if_neg he];omega
 ·have:(r.aE e).e=r.e:=by unfold aE;rw[if_neg e0]
  rw[this];omega
theorem Rd.bj(h:r.Inv)(hk:r.tok.kind≠0):Rd.St r r.inc/\r.inc.dw=r.dw-3:=by
 have:=Rd.behind h hk;have e:r.inc.dw=r.dw-3:=by simp only[Rd.dw,Rd.inc];omega
 exact⟨⟨rfl,rfl,rfl,by simp only[Rd.inc];omega,by simp only[Rd.inc];omega,jB,id⟩,e⟩
theorem Rd.aL(h:r.Inv)(t:ByteArray):Rd.St r (r.aq t):=by
 unfold Rd.aq;split
 ·rename_i hs;exact(Rd.bj h (Rd.aT hs).2).1
 ·exact Rd.fv h 20 jC
theorem Rd.cZ(h:r.Inv):Rd.St r r.name.1:=by
 unfold Rd.name;split
 ·rename_i hs;exact(Rd.bj h (Rd.du hs jC).2).1
 ·exact Rd.fv h 20 jC
theorem Rd.lR(r:Rd)(n:bh):(r.node n).dw=r.dw+1:=by simp only[Rd.dw,Rd.node,List.length_append,List.length_cons,List.length_nil];omega
theorem Rd.cJ(s:Rd.St r r')(hp:r'.dw+1<=r.dw)(k ln n:Int)(nm:ByteArray)(L:List Int):Rd.St r (r'.put k ln n nm L).1:=
 ⟨s.src,s.l,s.deep,s.i,s.lt,by show(r'.node _).dw<=_;rw[Rd.lR];exact hp,s.err⟩
theorem Rd.sG:r.down.e=(if 16<=r.deep then r.aE 21 else r).e:=rfl
theorem Rd.bF(h:r.Inv)(he:r.e=0):r.down.Inv/\r.down.dw<=r.dw/\r.down.i=r.i/\r.down.l=r.l/\r.down.src=r.src/\r.down.deep=r.deep+1:=by
 have hd:=h.Nz he;have hi:r.down.i=r.i:=by unfold Rd.down;split<;>simp[uP]
 have hl:r.down.l=r.l:=by unfold Rd.down;split<;>simp[gk]
 have hs:r.down.src=r.src:=by unfold Rd.down;split<;>simp[Cb]
 have hn:r.down.nodes=r.nodes:=by unfold Rd.down;split<;>simp[dt]
 have hdd:r.down.deep=r.deep+1:=rfl;have hee:r.down.e=0->r.deep<16:=fun e=>by
  rw[Rd.sG]at e;split at e
  ·unfold aE at e;rw[if_pos he]at e;cases e
  ·omega
 have hp:r.down.dw<=r.dw:=by
  unfold Rd.dw;rw[hn,hl,hi,if_pos he];split<;>omega
 refine⟨⟨by rw[hs];exact h.src,by rw[hi];exact h.pos,by rw[hi,hl];exact h.lt,by rw[hl];exact h.len,by rw[hl];exact h.num,by rw[hl];exact h.tk,by have:=h.ou;omega,jB,fun e=>by have:=hee e;omega,by have:=h.dw;omega⟩,hp,hi,hl,hs,hdd⟩
theorem Rd.fc(h:r.Inv)(he:r.e=0)(s:Rd.St r.down r'):Rd.St r r'.up:=by
 obtain⟨_,h1,h2,h3,h4,h5⟩:=Rd.bF h he;exact⟨s.src.trans h4,s.l.trans h3,by show r'.deep-1=_;rw[s.deep,h5];omega,by show r.i<=r'.i;rw[<-h2];exact s.i,by show r'.i<_;rw[<-h3];exact s.lt,by show r'.dw<=_;have:=s.dw;omega,fun e=>(e he).elim⟩
theorem Rd.lj{lv:Int}(h:r.next lv≠⟨#[]⟩):r.is (r.next lv)=true:=by
 unfold Rd.next at h ⊢;cases e:(mA lv).find? (fun s=>r.is s)with
 |none=>rw[e]at h;exact(h rfl).elim
 |some s=>exact List.find?_some e
theorem Rd.cO(h:r.Inv)(hk:r.e=0/\r.tok.kind≠0):r.inc.rem+1<=r.rem:=by
 have:=Rd.behind h hk.2;unfold Rd.rem;rw[if_pos hk.1,if_pos (show r.inc.e=0 from hk.1)];have:r.inc.i=r.i+1:=rfl;have:r.inc.l=r.l:=rfl;simp only[*];omega
theorem ry:∀n,(∀r:Rd,r.Inv->Rd.St r (p8 n r).1)/\(∀r:Rd,r.Inv->Rd.St r (gW n r).1)/\(∀lv (r:Rd),r.Inv->Rd.St r (dJ n lv r).1)/\(∀lv ln (p:Rd×Int),p.1.Inv->Rd.St p.1 (nX n lv ln p).1)
 |0=>⟨fun r h=>by unfold p8;exact .refl h,fun r h=>by unfold gW;exact .refl h,fun lv r h=>by unfold dJ;exact .refl h,fun lv ln p h=>by unfold nX;exact .refl h⟩
 |n+1=>by
  obtain⟨ia,kg,ic,il⟩:=ry n
  -- a token, and what is behind it, bq
  have bq:∀(r:Rd) (t u:ByteArray),r.Inv->r.e=0->Rd.St r ((dJ n 0 (r.down.aq t)).1.aq u).up:=fun r t u h he=>by
   have h1:=(Rd.bF h he).1;have s1:=Rd.aL h1 t;have s2:=ic 0 _ (s1.inv h1);have s12:=s1.trans s2;have s3:=Rd.aL (s12.inv h1) u;exact Rd.fc h he (s12.trans s3)
  refine⟨fun r h=>?_,fun r h=>?_,fun lv r h=>?_,fun lv ln p h=>?_⟩
  ·unfold p8
   split
   ·exact .refl h
   rename_i he;have he:r.e=0:=jB
   split
   ·rename_i hk
    obtain⟨s1,e1⟩:=Rd.bj h jB;exact Rd.cJ s1 jB _ _ _ _ _
   split
   ·rename_i hk
    obtain⟨s1,e1⟩:=Rd.bj h jB;exact Rd.cJ s1 jB _ _ _ _ _
   split
   ·rename_i hk
    obtain⟨s1,e1⟩:=Rd.bj h jB;split
    ·have s2:=bq r.inc (⟨#[91]⟩:ByteArray) (⟨#[93]⟩:ByteArray) (s1.inv h) he
     exact Rd.cJ (s1.trans s2) (by have:=s2.dw;omega) _ _ _ _ _
    ·exact Rd.cJ s1 jB _ _ _ _ _
   split
   ·rename_i hs
    obtain⟨s1,e1⟩:=Rd.bj h (Rd.aT hs).2;exact Rd.cJ s1 jB _ _ _ _ _
   split
   ·rename_i hs
    obtain⟨s1,e1⟩:=Rd.bj h (Rd.aT hs).2;exact Rd.cJ s1 jB _ _ _ _ _
   split
   ·rename_i hs
    obtain⟨s1,e1⟩:=Rd.bj h (Rd.aT hs).2;split
    ·have s2:=bq r.inc (⟨#[40]⟩:ByteArray) (⟨#[41]⟩:ByteArray) (s1.inv h) he
     exact Rd.cJ (s1.trans s2) (by have:=s2.dw;omega) _ _ _ _ _
    ·exact s1.trans (Rd.fv (s1.inv h) 20 jC)
   split
   ·exact bq r (⟨#[40]⟩:ByteArray) (⟨#[41]⟩:ByteArray) h he
   ·exact Rd.fv h 20 jC
  ·unfold gW
   have sg:∀t,r.is t=true->∀k ln nm,Rd.St r (((gW n r.down.inc).1.up).put k ln 0 nm [(gW n r.down.inc).2]).1:=fun t ht k ln nm=>by
    obtain⟨he,hk⟩:=Rd.aT ht;obtain⟨h1,h2,h3,h4,_⟩:=Rd.bF h he;have htk:r.down.tok=r.tok:=by unfold Rd.tok;rw[h3,h4]
    obtain⟨s1,e1⟩:=Rd.bj h1 (by rw[htk];exact hk);have s2:=kg _ (s1.inv h1);exact Rd.cJ (Rd.fc h he (s1.trans s2)) (by have:=s2.dw;show(gW n r.down.inc).1.dw+1<=_;omega) _ _ _ _ _
   split
   ·rename_i ht;exact sg _ ht _ _ _
   split
   ·rename_i ht;exact sg _ ht _ _ _
   ·exact ia r h
  ·unfold dJ
   split
   ·exact kg r h
   ·have s1:=ic (lv+1) r h
    exact s1.trans (il _ _ _ (s1.inv h))
  ·unfold nX
   split
   ·exact .refl h
   rename_i hn;obtain⟨s1,e1⟩:=Rd.bj h (Rd.aT (Rd.lj hn)).2;have s2:=ic (lv+1) _ (s1.inv h);have s3:=fun L=>Rd.cJ (s1.trans s2) (by have:=s2.dw;omega) 9 ln 0 (p.1.next lv) L
   split
   ·exact s3 _
   ·exact(s3 _).trans (il _ _ _ ((s3 _).inv h))
def cL(r:Rd):Rd×Int:=dJ (8*r.rem+8) 0 r
def mF:Nat->Bool->Rd->List Int->Rd×List Int
 |0,_,r,L=>(r,L)
 |_+1,false,r,L=>(r,L)
 |n+1,true,r,L=>if(cL r).1.is (⟨#[44]⟩:ByteArray)=true then mF n true (cL r).1.inc (L++[(cL r).2])else((cL r).1,L++[(cL r).2])
def more(r:Rd):Bool:=!(r.is (⟨#[41]⟩:ByteArray)) && decide (r.e=0)
def oO(r:Rd):Rd:=r.name.1.aq (⟨#[40]⟩:ByteArray)
def ns(r:Rd):Rd×List Int:=mF ((oO r).rem+2) (more (oO r)) (oO r) []
def mi(r:Rd):Rd×Int:=((ns r).1.aq (⟨#[41]⟩:ByteArray)).put 21 r.cu 0 r.name.2 (ns r).2
def ld(r:Rd):Rd×Int:=
 if r.is (⟨#[105,110,112,117,116]⟩:ByteArray)=true then r.inc.put 19 r.cu 0 ⟨#[]⟩ []
 else if r.is (⟨#[110,101,119]⟩:ByteArray)=true then((cL (r.inc.aq (⟨#[40]⟩:ByteArray))).1.aq (⟨#[41]⟩:ByteArray)).put 20 r.cu 0 ⟨#[]⟩ [(cL (r.inc.aq (⟨#[40]⟩:ByteArray))).2]
 else if r.calls=true then mi r else cL r
def oB(r:Rd):Rd×Int:=cL (r.down.aq (⟨#[91]⟩:ByteArray))
def uX(r:Rd):Rd×Int:=cL (((oB r).1.aq (⟨#[93]⟩:ByteArray)).up.aq (⟨#[61]⟩:ByteArray))
def py(r:Rd)(ln:Int):Rd×Int:=
 if r.calls=true then((mi r).1.aq (⟨#[59]⟩:ByteArray)).put 13 ln 0 ⟨#[]⟩ [(mi r).2]
 else if r.name.1.is (⟨#[91]⟩:ByteArray)=true then((uX r.name.1).1.aq (⟨#[59]⟩:ByteArray)).put 12 ln 0 r.name.2 [(oB r.name.1).2,(uX r.name.1).2]
 else((ld (r.name.1.aq (⟨#[61]⟩:ByteArray))).1.aq (⟨#[59]⟩:ByteArray)).put 11 ln 0 r.name.2 [(ld (r.name.1.aq (⟨#[61]⟩:ByteArray))).2]
mutual
def fO:Nat->Rd->Rd×Int
 |0,r=>(r,0)
 |n+1,r=>
  if r.is (⟨#[123]⟩:ByteArray)=true then((l9 n (r.down.aq (⟨#[123]⟩:ByteArray)) []).1.aq (⟨#[125]⟩:ByteArray)).up.put 18 r.cu 0 ⟨#[]⟩ (l9 n (r.down.aq (⟨#[123]⟩:ByteArray)) []).2
  else(r.aE 20,0)
def l9:Nat->Rd->List Int->Rd×List Int
 |0,r,L=>(r,L)
 |n+1,r,L=>if r.e=0/\r.is (⟨#[125]⟩:ByteArray)=false then l9 n (nH n r).1 (L++[(nH n r).2])else(r,L)
def nH:Nat->Rd->Rd×Int
 |0,r=>(r,0)
 |n+1,r=>
  if r.word=(⟨#[108,101,116]⟩:ByteArray)then((ld (r.inc.name.1.aq (⟨#[61]⟩:ByteArray))).1.aq (⟨#[59]⟩:ByteArray)).put 10 r.cu 0 r.inc.name.2 [(ld (r.inc.name.1.aq (⟨#[61]⟩:ByteArray))).2]
  else if r.word=(⟨#[112,114,105,110,116]⟩:ByteArray)then((cL r.inc).1.aq (⟨#[59]⟩:ByteArray)).put 14 r.cu 0 ⟨#[]⟩ [(cL r.inc).2]
  else if r.word=(⟨#[119,104,105,108,101]⟩:ByteArray)then(fO n (cL r.inc).1).1.put 16 r.cu 0 ⟨#[]⟩ [(cL r.inc).2,(fO n (cL r.inc).1).2]
  else if r.word=(⟨#[105,102]⟩:ByteArray)then
   (if(fO n (cL r.inc).1).1.is (⟨#[101,108,115,101]⟩:ByteArray)=true then(fO n (fO n (cL r.inc).1).1.inc).1.put 15 r.cu 0 ⟨#[]⟩ [(cL r.inc).2,(fO n (cL r.inc).1).2,(fO n (fO n (cL r.inc).1).1.inc).2]
   else(fO n (cL r.inc).1).1.put 15 r.cu 0 ⟨#[]⟩ [(cL r.inc).2,(fO n (cL r.inc).1).2])
  else if r.word=(⟨#[114,101,116,117,114,110]⟩:ByteArray)then
   (if r.inc.is (⟨#[59]⟩:ByteArray)=true then(r.inc.aq (⟨#[59]⟩:ByteArray)).put 17 r.cu 0 ⟨#[]⟩ []
   else((cL r.inc).1.aq (⟨#[59]⟩:ByteArray)).put 17 r.cu 0 ⟨#[]⟩ [(cL r.inc).2])
  else py r r.cu
end
def n6(r:Rd):Rd×Int:=fO (4*r.rem+4) r
def rR(w:ByteArray):Int:=if w=(⟨#[105,110,116]⟩:ByteArray)then 1 else if w=(⟨#[98,111,111,108]⟩:ByteArray)then 2 else if w=(⟨#[116,101,120,116]⟩:ByteArray)then 3 else if w=(⟨#[108,105,115,116]⟩:ByteArray)then 4 else 0
def iu(r:Rd):Rd×Int:=if rR r.word=0 then(r.aE 20,0)else(r.inc,rR r.word)
def pC(r:Rd):Rd:=(iu r.name.1).1
def ma:Nat->Bool->Rd->List bD->Rd×List bD
 |0,_,r,L=>(r,L)
 |_+1,false,r,L=>(r,L)
 |n+1,true,r,L=>if(pC r).is (⟨#[44]⟩:ByteArray)=true then ma n true (pC r).inc (L++[⟨r.name.2,(iu r.name.1).2⟩])else(pC r,L++[⟨r.name.2,(iu r.name.1).2⟩])
def mo(r:Rd):Rd:=(r.aq (⟨#[102,110]⟩:ByteArray)).name.1.aq (⟨#[40]⟩:ByteArray)
def su(r:Rd):Rd×List bD:=ma ((mo r).rem+2) (more (mo r)) (mo r) []
def kW(r:Rd):Rd:=(su r).1.aq (⟨#[41]⟩:ByteArray)
def lT(r:Rd):Rd×Int:=if(kW r).is (⟨#[123]⟩:ByteArray)=true then(kW r,0)else iu (kW r)
def mc(r:Rd):Rd×aW:=((n6 (lT r).1).1,⟨(r.aq (⟨#[102,110]⟩:ByteArray)).name.2,r.cu,(su r).2,(lT r).2,(n6 (lT r).1).2⟩)
def p7:Nat->Rd->List aW->Rd×List aW
 |0,r,L=>(r,L)
 |n+1,r,L=>if r.e=0/\r.kind 0=false then p7 n (mc r).1 (L++[(mc r).2])else(r,L)
def oh(s:ByteArray):Rd:=⟨s,(j4 s).1,0,[],0,0,0⟩
def nC(s:ByteArray):Rd×List aW:=p7 ((oh s).rem+1) (oh s) []
def tv(t:List bh)(L:List aW):Bool:=decide (300<t.length) || decide (6<L.length) || L.any fun f=>decide (3<f.params.length)
def gu(s:ByteArray):ax×Int×Int:=
 if(j4 s).2.2≠0 then(⟨[],[]⟩,(j4 s).2.1,(j4 s).2.2)
 else if(nC s).1.e≠0 then(⟨[],[]⟩,(nC s).1.at_,(nC s).1.e)
 else if tv (nC s).1.nodes (nC s).2=true then(⟨[],[]⟩,0,4)
 else(⟨(nC s).1.nodes,(nC s).2⟩,0,0)
-- what is kept
theorem Rd.St.tF(s:Rd.St r r')(h:r.Inv)(he:r.e=0)(hi:r.i+1<=r'.i):r'.rem+1<=r.rem:=by
 have h1:=s.l;have h2:=s.lt;have h3:=h.pos;unfold Rd.rem;rw[if_pos he,h1];split<;>omega
theorem Rd.St.lc(h:r.Inv)(he:r.e=0)(hi:r'.e≠0):r'.rem+1<=r.rem:=by
 have h2:=h.lt;have h3:=h.pos;unfold Rd.rem;rw[if_pos he,if_neg hi];omega
theorem Rd.gm{e:Int}(he:e≠0):(r.aE e).e≠0:=by
 unfold Rd.aE;split
 ·exact he
 ·assumption
theorem Rd.nE(h:r.Inv)(he:r.e=0)(t:ByteArray):(r.aq t).rem+1<=r.rem/\(r.aq t).dw+1<=r.dw:=by
 unfold Rd.aq;split
 ·rename_i hs
  have hk:=Rd.aT hs;exact⟨Rd.cO h hk,by rw[(Rd.bj h hk.2).2];omega⟩
 ·have he':=Rd.gm (r:=r) (e:=20) jC
  refine⟨Rd.St.lc h he he',?_⟩;unfold Rd.dw;rw[dt,gk,uP,if_pos he,if_neg he'];omega
theorem Rd.qm(h:r.Inv)(he:r.e=0):r.name.1.rem+1<=r.rem/\r.name.1.dw+1<=r.dw:=by
 unfold Rd.name;split
 ·rename_i hs
  have hk:=Rd.du hs jC;exact⟨Rd.cO h hk,by show r.inc.dw+1<=_;rw[(Rd.bj h hk.2).2];omega⟩
 ·have he':=Rd.gm (r:=r) (e:=20) jC
  refine⟨Rd.St.lc h he he',?_⟩;show(r.aE 20).dw+1<=_;unfold Rd.dw;rw[dt,gk,uP,if_pos he,if_neg he'];omega
theorem Rd.gf(h:r.Inv)(ht:r.is t=true):(r.down.aq t).rem+1<=r.rem/\(r.down.aq t).dw+1<=r.dw:=by
 obtain⟨he,hk⟩:=Rd.aT ht;obtain⟨h1,h2,h3,h4,h5,h6⟩:=Rd.bF h he;by_cases e:r.down.e=0
 ·obtain⟨a,b⟩:=Rd.nE h1 e t
  have:r.down.rem<=r.rem:=by
   unfold Rd.rem;rw[if_pos he,if_pos e,h3,h4];exact Nat.le_refl _
  omega
 ·have hs:=Rd.aL h1 t
  have e2:(r.down.aq t).e≠0:=hs.err e;refine⟨Rd.St.lc h he e2,?_⟩;have:r.down.dw+1<=r.dw:=by
   have hn:r.down.nodes=r.nodes:=by unfold Rd.down;split<;>simp[dt]
   unfold Rd.dw;rw[hn,h4,h3,if_pos he,if_neg e];omega
  have:=hs.dw;omega
theorem ju(h:r.Inv):Rd.St r (cL r).1:=(ry _).2.2.1 0 r h
theorem Ba:∀(n:Nat) (b:Bool) (r:Rd) (L:List Int),r.Inv->Rd.St r (mF n b r L).1
 |0,_,r,L,h=>by unfold mF;exact .refl h
 |n+1,false,r,L,h=>by unfold mF;exact .refl h
 |n+1,true,r,L,h=>by
  have s1:=ju h;have h1:=s1.inv h;unfold mF;split
  ·rename_i hs
   have s2:=(Rd.bj h1 (Rd.aT hs).2).1;exact(s1.trans s2).trans (Ba n _ _ _ (s2.inv h1))
  ·exact s1
theorem zb(h:r.Inv):Rd.St r (oO r):=(Rd.cZ h).trans (Rd.aL ((Rd.cZ h).inv h) _)
theorem zS(h:r.Inv):Rd.St r (ns r).1:=(zb h).trans (Ba _ _ _ _ ((zb h).inv h))
theorem KA(h:r.Inv):Rd.St r ((ns r).1.aq (⟨#[41]⟩:ByteArray)):=(zS h).trans (Rd.aL ((zS h).inv h) _)
theorem Rd.jx(h:r.calls=true):r.kind 3=true:=by
 unfold Rd.calls at h;simp only[Bool.and_eq_true]at h;exact h.1.1
theorem zC(h:r.Inv)(hc:r.calls=true):Rd.St r (mi r).1/\(mi r).1.dw+2<=r.dw/\(mi r).1.rem+1<=r.rem:=by
 have hk:=Rd.du (Rd.jx hc) jC;have hn:r.name.1=r.inc:=by unfold Rd.name;rw[if_pos (Rd.jx hc)]
 obtain⟨s1,e1⟩:=Rd.bj h hk.2;have h1:=s1.inv h;have s2:Rd.St r.inc ((ns r).1.aq (⟨#[41]⟩:ByteArray)):=by
  have a1:Rd.St r.inc (oO r):=by unfold oO;rw[hn];exact Rd.aL h1 _
  have a2:Rd.St r.inc (ns r).1:=a1.trans (Ba _ _ _ _ (a1.inv h1));exact a2.trans (Rd.aL (a2.inv h1) _)
 have hp:=s2.dw;have s3:=Rd.cJ (s1.trans s2) jB 21 r.cu 0 r.name.2 (ns r).2;refine⟨s3,?_,?_⟩
 ·show(((ns r).1.aq (⟨#[41]⟩:ByteArray)).node _).dw+2<=_
  rw[Rd.lR];omega
 ·refine s3.tF h hk.1 ?_
  have:=s2.i;exact this
theorem yM(h:r.Inv):Rd.St r (ld r).1:=by
 unfold ld;split
 ·rename_i hs
  obtain⟨s1,e1⟩:=Rd.bj h (Rd.aT hs).2;exact Rd.cJ s1 jB _ _ _ _ _
 split
 ·rename_i hs
  obtain⟨s1,e1⟩:=Rd.bj h (Rd.aT hs).2;have h1:=s1.inv h;have s2:=Rd.aL h1 (⟨#[40]⟩:ByteArray);have s3:=ju (s2.inv h1);have s23:=s2.trans s3;have s4:=s23.trans (Rd.aL (s23.inv h1) (⟨#[41]⟩:ByteArray));exact Rd.cJ (s1.trans s4) (by have:=s4.dw;omega) _ _ _ _ _
 split
 ·rename_i hc;exact(zC h hc).1
 ·exact ju h
theorem BD(h:r.Inv)(hs:r.is (⟨#[91]⟩:ByteArray)=true):Rd.St r.down (oB r).1/\Rd.St r ((oB r).1.aq (⟨#[93]⟩:ByteArray)).up:=by
 have he:=(Rd.aT hs).1;have h1:=(Rd.bF h he).1;have s1:=Rd.aL h1 (⟨#[91]⟩:ByteArray);have s2:=s1.trans (ju (s1.inv h1));exact⟨s2,Rd.fc h he (s2.trans (Rd.aL (s2.inv h1) _))⟩
theorem xr(h:r.Inv)(hs:r.is (⟨#[91]⟩:ByteArray)=true):Rd.St r (((oB r).1.aq (⟨#[93]⟩:ByteArray)).up.aq (⟨#[61]⟩:ByteArray))/\Rd.St r (uX r).1:=by
 have s1:=(BD h hs).2;have s2:=s1.trans (Rd.aL (s1.inv h) (⟨#[61]⟩:ByteArray));exact⟨s2,s2.trans (ju (s2.inv h))⟩
theorem Jg(h:r.Inv)(he:r.e=0)(ln:Int):Rd.St r (py r ln).1/\(py r ln).1.rem+1<=r.rem:=by
 unfold py;have s0:=Rd.cZ h;have h0:=s0.inv h;obtain⟨n1,n2⟩:=Rd.qm h he
 -- a name, and what is behind it
 have fin:∀(q:Rd) k L,Rd.St r.name.1 q->Rd.St r (q.put k ln 0 r.name.2 L).1/\(q.put k ln 0 r.name.2 L).1.rem+1<=r.rem:=fun q k L s=>by
  refine⟨Rd.cJ (s0.trans s) (by have:=s.dw;omega) _ _ _ _ _,?_⟩;have:=s.rem;show q.rem+1<=_;omega
 split
 ·rename_i hc
  obtain⟨s1,p1,r1⟩:=zC h hc;have s2:=Rd.aL (s1.inv h) (⟨#[59]⟩:ByteArray);refine⟨Rd.cJ (s1.trans s2) (by have:=s2.dw;omega) _ _ _ _ _,?_⟩;have:=s2.rem;show((mi r).1.aq (⟨#[59]⟩:ByteArray)).rem+1<=_;omega
 split
 ·rename_i hs
  have s1:=(xr h0 hs).2;exact fin _ _ _ (s1.trans (Rd.aL (s1.inv h0) _))
 ·have s1:=Rd.aL h0 (⟨#[61]⟩:ByteArray)
  have s2:=s1.trans (yM (s1.inv h0));exact fin _ _ _ (s2.trans (Rd.aL (s2.inv h0) _))
theorem Rd.gl{w:ByteArray}(h:r.word=w)(h0:w≠⟨#[]⟩):r.kind 4=true:=by
 unfold Rd.word at h;split at h
 ·assumption
 ·exact absurd h.symm h0
theorem sq:∀n,(∀r:Rd,r.Inv->Rd.St r (fO n r).1)/\(∀(r:Rd) L,r.Inv->Rd.St r (l9 n r L).1)/\(∀r:Rd,r.Inv->r.e=0->0<n->Rd.St r (nH n r).1/\(nH n r).1.rem+1<=r.rem)
 |0=>⟨fun r h=>by unfold fO;exact .refl h,fun r L h=>by unfold l9;exact .refl h,fun r h he hn=>by omega⟩
 |n+1=>by
  obtain⟨ib,is,it⟩:=sq n;refine⟨fun r h=>?_,fun r L h=>?_,fun r h he _=>?_⟩
  ·unfold fO
   split
   ·rename_i hs
    have he:=(Rd.aT hs).1;have h1:=(Rd.bF h he).1;have s1:=Rd.aL h1 (⟨#[123]⟩:ByteArray);have s2:=is _ [] (s1.inv h1);have s12:=s1.trans s2;have s3:=Rd.aL (s12.inv h1) (⟨#[125]⟩:ByteArray);have hp:=(Rd.gf h hs).2;refine Rd.cJ (Rd.fc h he (s12.trans s3)) ?_ _ _ _ _ _;have:=s2.dw;have:=s3.dw;show((l9 n (r.down.aq (⟨#[123]⟩:ByteArray)) []).1.aq (⟨#[125]⟩:ByteArray)).dw+1<=_;omega
   ·exact Rd.fv h 20 jC
  ·unfold l9
   split
   ·rename_i hc
    cases n with
    |zero=>unfold l9 nH;exact .refl h
    |succ n=>
     have s1:=(it r h hc.1 jB).1;exact s1.trans (is _ _ (s1.inv h))
   ·exact .refl h
  ·-- a word, and what is behind it
   have fin:∀(w:ByteArray) (q:Rd) k ln nm L,w≠⟨#[]⟩->r.word=w->(r.inc.Inv->Rd.St r.inc q)->Rd.St r (q.put k ln 0 nm L).1/\(q.put k ln 0 nm L).1.rem+1<=r.rem:=fun w q k ln nm L h0 hw s=>by
    have hk:=Rd.du (Rd.gl hw h0) jC;obtain⟨s1,e1⟩:=Rd.bj h hk.2;have s2:=s (s1.inv h);refine⟨Rd.cJ (s1.trans s2) (by have:=s2.dw;omega) _ _ _ _ _,?_⟩;have:=s2.rem;have:=Rd.cO h hk;show q.rem+1<=_;omega
   unfold nH;split
   ·rename_i hw
    refine fin _ _ _ _ _ _ jC hw fun h1=>?_
    have s1:=Rd.cZ h1;have s2:=s1.trans (Rd.aL (s1.inv h1) (⟨#[61]⟩:ByteArray));have s3:=s2.trans (yM (s2.inv h1));exact s3.trans (Rd.aL (s3.inv h1) _)
   split
   ·rename_i hw
    refine fin _ _ _ _ _ _ jC hw fun h1=>?_
    have s1:=ju h1;exact s1.trans (Rd.aL (s1.inv h1) _)
   split
   ·rename_i hw
    refine fin _ _ _ _ _ _ jC hw fun h1=>?_
    have s1:=ju h1;exact s1.trans (ib _ (s1.inv h1))
   split
   ·rename_i hw
    split
    ·rename_i hs
     refine fin _ _ _ _ _ _ jC hw fun h1=>?_
     have s1:=ju h1;have s2:=s1.trans (ib _ (s1.inv h1));have h2:=s2.inv h1;have s3:=(Rd.bj h2 (Rd.aT hs).2).1;exact(s2.trans s3).trans (ib _ (s3.inv h2))
    ·refine fin _ _ _ _ _ _ jC hw fun h1=>?_
     have s1:=ju h1;exact s1.trans (ib _ (s1.inv h1))
   split
   ·rename_i hw
    split
    ·exact fin _ _ _ _ _ _ jC hw fun h1=>Rd.aL h1 _
    ·refine fin _ _ _ _ _ _ jC hw fun h1=>?_
     have s1:=ju h1;exact s1.trans (Rd.aL (s1.inv h1) _)
   ·exact Jg h he _
theorem zv(h:r.Inv):Rd.St r (n6 r).1:=(sq _).1 r h
theorem NL(h:rR r.word≠0):r.e=0/\r.tok.kind≠0:=by
 refine Rd.du (k:=4) (Rd.gl (r:=r) rfl fun e=>?_) jC;rw[e]at h;exact h jC
theorem Hv(h:r.Inv):Rd.St r (iu r).1:=by
 unfold iu;split
 ·exact Rd.fv h 20 jC
 ·rename_i ht
  exact(Rd.bj h (NL ht).2).1
theorem Hq(h:r.Inv):Rd.St r (pC r):=(Rd.cZ h).trans (Hv ((Rd.cZ h).inv h))
theorem Gr:∀(n:Nat) (b:Bool) (r:Rd) (L:List bD),r.Inv->Rd.St r (ma n b r L).1
 |0,_,r,L,h=>by unfold ma;exact .refl h
 |n+1,false,r,L,h=>by unfold ma;exact .refl h
 |n+1,true,r,L,h=>by
  have s1:=Hq h;have h1:=s1.inv h;unfold ma;split
  ·rename_i hs
   have s2:=(Rd.bj h1 (Rd.aT hs).2).1;exact(s1.trans s2).trans (Gr n _ _ _ (s2.inv h1))
  ·exact s1
theorem pV(h:r.Inv):Rd.St r (r.aq (⟨#[102,110]⟩:ByteArray))/\Rd.St r (r.aq (⟨#[102,110]⟩:ByteArray)).name.1/\Rd.St r (mo r)/\Rd.St (r.aq (⟨#[102,110]⟩:ByteArray)) (mo r):=by
 have s1:=Rd.aL h (⟨#[102,110]⟩:ByteArray);have h1:=s1.inv h;have s2:=Rd.cZ h1;have s3:=s2.trans (Rd.aL (s2.inv h1) (⟨#[40]⟩:ByteArray));exact⟨s1,s1.trans s2,s1.trans s3,s3⟩
theorem Av(h:r.Inv):Rd.St (r.aq (⟨#[102,110]⟩:ByteArray)) (su r).1:=(pV h).2.2.2.trans (Gr _ _ _ _ ((pV h).2.2.1.inv h))
theorem yH(h:r.Inv):Rd.St (r.aq (⟨#[102,110]⟩:ByteArray)) (kW r):=(Av h).trans (Rd.aL ((Av h).inv ((pV h).1.inv h)) _)
theorem xL(h:r.Inv):Rd.St (r.aq (⟨#[102,110]⟩:ByteArray)) (lT r).1:=by
 unfold lT;split
 ·exact yH h
 ·exact(yH h).trans (Hv ((yH h).inv ((pV h).1.inv h)))
theorem Gx(h:r.Inv):Rd.St r (mc r).1/\(r.e=0->(mc r).1.rem+1<=r.rem):=by
 have h1:=(pV h).1.inv h;have s:=(xL h).trans (zv ((xL h).inv h1));refine⟨(pV h).1.trans s,fun he=>?_⟩;have:=(Rd.nE h he (⟨#[102,110]⟩:ByteArray)).1;have:(n6 (lT r).1).1.rem<=_:=s.rem;show(n6 (lT r).1).1.rem+1<=_;omega
variable{s:ByteArray}
theorem Lx{a e:Nat}(he:e<=s.size){j:Nat}(hj:a+j<e):ec (s.extract a e) (j:Nat)=ec s ((a+j:Nat):Int):=by
 unfold ec;have h1:(s.extract a e).data=s.data.extract a e:=jE
 rw[h1];simp only[Int.toNat_natCast];have hs:e<=s.data.size:=he;rw[Array.getElem?_extract];rw[jP]
theorem MU{a:Nat}(ha:a<s.size)(h:(gB s a).2.2=0):(gB s a).1.kind≠0/\((gB s a).1.kind=1->qs (gB s a).1.text):=by
 unfold gB at h ⊢;split at h<;>rename_i h1
 ·rw[if_pos h1]
  split at h<;>rename_i h2
  ·rw[if_pos h2]
   refine⟨fun e=>(by cases e),fun _=>?_⟩;have hb:=(ub (p:=jd) (s:=s) (i:=a) jB).2;have hp:=vn ha h1;have hsz:(s.extract a (ii jd s a)).size=ii jd s a-a:=by rw[ByteArray.size_extract];omega
   refine⟨by show 0<(s.extract a (ii jd s a)).size;omega,h2,fun j hj=>?_⟩;have hj:j<(s.extract a (ii jd s a)).size:=hj;show jd (ec (s.extract a (ii jd s a)) j)=true;rw[Lx hb jB];exact DJ (n:=s.size+1) (i:=a) jB (by show _<ii jd s a;omega)
  ·cases h
 ·rw[if_neg h1]
  split at h<;>rename_i h2
  ·rw[if_pos h2]
   split at h<;>rename_i h3
   ·rw[if_pos h3];exact⟨fun e=>(by cases e),fun e=>(by cases e)⟩
   ·rw[if_neg h3]
    split at h<;>rename_i h4
    ·cases h
    ·rw[if_neg h4];exact⟨fun e=>(by cases e),fun e=>(by cases e)⟩
  ·rw[if_neg h2]
   split at h<;>rename_i h3
   ·rw[if_pos h3];exact⟨fun e=>(by cases e),fun e=>(by cases e)⟩
   ·rw[if_neg h3]
    split at h<;>rename_i h4
    ·cases h
    ·rw[if_neg h4];exact⟨fun e=>(by cases e),fun e=>(by cases e)⟩
def zr(t:cd):Prop:=t.kind≠0/\(t.kind=1->qs t.text)
theorem Cg(s:ByteArray):∀(n i:Nat) (out:List cd),s.size<n+i->i<=s.size->(lf s n i out).2.2=0->out.length<=i->(∀t∈out,zr t)->∃ts,(lf s n i out).1=ts++[⟨0,⟨#[]⟩,s.size⟩]/\ts.length<=s.size/\∀t∈ts,zr t
 |0,i,out,h1,h2,_,_,_=>by omega
 |n+1,i,out,h1,h2,he,hl,ho=>by
  unfold lf at he ⊢;split at he<;>rename_i hi
  ·rw[if_pos hi]
   split at he<;>rename_i h3
   ·rw[if_pos h3]
    obtain⟨e,h4,h5,h6⟩:=xB hi h3;rw[h4,Int.toNat_natCast]at he ⊢;have:=ug (s:=s) (i:=e) h6;refine Cg s n _ _ jB this.2 he (by rw[List.length_append];simp;omega) fun t ht=>?_
    rcases List.mem_append.1 ht with ht|ht
    ·exact ho t ht
    ·rw[List.mem_singleton.1 ht];exact MU hi h3
   ·exact(h3 he).elim
  ·rw[if_neg hi]
   exact⟨out,rfl,jB,ho⟩
theorem Nc(he:(j4 s).2.2=0):s.size<=600/\∃ts,(j4 s).1=ts++[⟨0,⟨#[]⟩,s.size⟩]/\ts.length<=s.size/\∀t∈ts,zr t:=by
 unfold j4 at he ⊢;split at he<;>rename_i h
 ·cases he
 ·rw[if_neg h]
  have h0:=ug (s:=s) (i:=0) (Nat.zero_le _);exact⟨jB,Cg s (s.size+1) _ _ jB h0.2 he jE fun t ht=>by simp at ht⟩
theorem NQ{α:Type}[Inhabited α]{l m:List α}{k:Nat}(h:k<l.length):nth (l++m) k=nth l k:=by
 simp only[nth,List.getD_eq_getElem?_getD,List.getElem?_append_left h]
theorem dx{α:Type}[Inhabited α]{l:List α}{k:Nat}(h:k<l.length):nth l k∈l:=by
 rw[dN h];exact List.getElem_mem h
theorem CL(he:(j4 s).2.2=0):(oh s).Inv:=by
 obtain⟨h0,ts,h1,h2,h3⟩:=Nc he;have hl:(oh s).l=ts++[⟨0,⟨#[]⟩,s.size⟩]:=h1;have hn:(oh s).l.length=ts.length+1:=by rw[hl];simp
 have hlast:nth (ts++[⟨0,⟨#[]⟩,s.size⟩]:List cd) ts.length=⟨0,⟨#[]⟩,s.size⟩:=by
  simp[nth]
 refine⟨by show s.size<=1000;omega,Int.le_refl _,by show(0:Int)<_;omega,jB,fun k hk hk1=>?_,fun k hk hk1=>?_,Int.le_refl _,by show(0:Int)<=17;decide,fun _=>by show(0:Int)<=16;decide,?_⟩
 ·rw[hl]at hk1 ⊢
  by_cases e:k<ts.length
  ·rw[NQ e]at hk1 ⊢
   exact(h3 _ (dx e)).2 hk1
  ·have:k=ts.length:=jB
   subst this;rw[hlast]at hk1;cases hk1
 ·by_cases e:k<ts.length
  ·omega
  ·have:k=ts.length:=jB
   subst this;rw[hl,hlast]at hk1;exact(hk1 rfl).elim
 ·show((0:Nat):Int)+3*((oh s).l.length-0)+1<=8000
  omega
end Go.Gd

/- Lemmas. No conditions. -/
import Derived.Test.YtfkgcobaheegbaaGreatDoorGdY
set_option linter.all false
namespace Go.Gd
open Go
abbrev sE:ByteArray:=⟨#[]⟩
def vI(n:Int):ak:=⟨1,n,sE⟩
def vB(b:Bool):ak:=⟨2,if b=true then 1 else 0,sE⟩
def vT(s:ByteArray):ak:=⟨3,0,s⟩
def vZ(t:Int):ak:=⟨t,0,sE⟩
def v0:ak:=⟨0,0,sE⟩
def j9(v:ak):Bool:=
 if v.ty=1 then decide (v.s=sE)
 else if v.ty=2 then decide (v.s=sE) && (decide (v.n=0) || decide (v.n=1))
 else if v.ty=3 then decide (v.n=0) && decide ((v.s.size:Int)<=40)
 else if v.ty=4 then decide (v.s=sE) && decide (0<=v.n)
 else false
def sZ(sign:ByteArray)(a b:Int):ak×Int:=
 if sign=(⟨#[43]⟩:ByteArray)then(vI (IntKind.i64.wrap (a+b)),0)
 else if sign=(⟨#[45]⟩:ByteArray)then(vI (IntKind.i64.wrap (a-b)),0)
 else if sign=(⟨#[42]⟩:ByteArray)then(vI (IntKind.i64.wrap (a*b)),0)
 else if sign=(⟨#[47]⟩:ByteArray)then(if b=0 then(v0,1)else(vI (IntKind.i64.wrap (a.tdiv b)),0))
 else if sign=(⟨#[37]⟩:ByteArray)then(if b=0 then(v0,1)else(vI (a.tmod b),0))
 else if sign=(⟨#[60]⟩:ByteArray)then(vB (decide (a<b)),0)
 else if sign=(⟨#[60,61]⟩:ByteArray)then(vB (decide (a<=b)),0)
 else(v0,0)
def kN(sign:ByteArray)(a b:ak):ak×Int:=
 if a.ty≠b.ty\/a.ty<1\/4<a.ty then(v0,0)
 else if sign=(⟨#[61,61]⟩:ByteArray)then(vB (decide (a.n=b.n) && decide (a.s=b.s)),0)
 else if sign=(⟨#[33,61]⟩:ByteArray)then(vB (!(decide (a.n=b.n) && decide (a.s=b.s))),0)
 else if a.ty=1 then sZ sign a.n b.n
 else if a.ty=2 then(if sign=(⟨#[124,124]⟩:ByteArray)then(vB (decide (a.n=1) || decide (b.n=1)),0)else if sign=(⟨#[38,38]⟩:ByteArray)then(vB (decide (a.n=1) && decide (b.n=1)),0)else(v0,0))
 else if a.ty=3 then(if sign=(⟨#[43]⟩:ByteArray)then(if(a.s.size:Int)+b.s.size>40 then(v0,6)else(vT (a.s++b.s),0))else(v0,0))
 else(v0,0)
def kQ(sign:ByteArray)(a:ak):ak:=
 if sign=(⟨#[45]⟩:ByteArray)/\a.ty=1 then vI (IntKind.i64.wrap (-a.n))
 else if sign=(⟨#[33]⟩:ByteArray)/\a.ty=2 then vB (!decide (a.n=1))
 else v0
def jY(n:Int):Bool:=decide (48<=n) && decide (n<=57)
def wl(n:Int):Bool:=(decide (97<=n) && decide (n<=122)) || (decide (65<=n) && decide (n<=90))
def xd(s:ByteArray):Bool:=decide ((s.size:Int)<19) || (decide ((s.size:Int)=19) && (Op.bytesLess s.toList (⟨#[57,50,50,51,51,55,50,48,51,54,56,53,52,55,55,53,56,48,55]⟩:ByteArray).toList || decide (s=(⟨#[57,50,50,51,51,55,50,48,51,54,56,53,52,55,55,53,56,48,55]⟩:ByteArray))))
def oX(s:ByteArray):Nat->Int
 |0=>1
 |k+1=>if eL s k=10 then oX s k+1 else oX s k
theorem Fa(s:ByteArray):∀k,1<=oX s k/\oX s k<=k+1
 |0=>by simp[oX]
 |k+1=>by have:=Fa s k;unfold oX;split<;>omega
def fR:List ByteArray:=[(⟨#[102,110]⟩:ByteArray),(⟨#[108,101,116]⟩:ByteArray),(⟨#[105,102]⟩:ByteArray),(⟨#[101,108,115,101]⟩:ByteArray),(⟨#[119,104,105,108,101]⟩:ByteArray),(⟨#[114,101,116,117,114,110]⟩:ByteArray),(⟨#[112,114,105,110,116]⟩:ByteArray),(⟨#[105,110,112,117,116]⟩:ByteArray),(⟨#[110,101,119]⟩:ByteArray),(⟨#[108,101,110]⟩:ByteArray),(⟨#[116,114,117,101]⟩:ByteArray),(⟨#[102,97,108,115,101]⟩:ByteArray),(⟨#[105,110,116]⟩:ByteArray),(⟨#[98,111,111,108]⟩:ByteArray),(⟨#[116,101,120,116]⟩:ByteArray),(⟨#[108,105,115,116]⟩:ByteArray)]
theorem Ou:fR.length=16:=rfl
def vt(s:ByteArray):Bool:=fR.any fun t=>decide (t=s)
-- the first one
theorem yM{α:Type}[Inhabited α]{p:α->Bool}:∀{l:List α} {k:Nat},(∀j,j<k->p (nth l j)=false)->k<l.length->p (nth l k)=true->l.find? p=some (nth l k)
 |[],k,_,h,_=>by simp at h
 |x::l,0,_,_,hp=>by have:p x=true:=hp;rw[List.find?_cons,this];rfl
 |x::l,k+1,h,hk,hp=>by have h0:p x=false:=h 0 jB;rw[List.find?_cons,h0];exact yM (fun j hj=>h (j+1) jB) (by simpa using hk) hp
theorem zJ{α:Type}[Inhabited α]{p:α->Bool}{l:List α}(h:∀j,j<l.length->p (nth l j)=false):l.find? p=none:=by rw[List.find?_eq_none];intro x hx;obtain⟨j,hj,rfl⟩:=List.getElem_of_mem hx;have:=h j hj;rw[dN hj]at this;simp[this]
theorem BJ{n k:Nat}(h:k<n):nth (List.range n) k=k:=by simp[nth,h]
-- bytes of which p holds
def pq(p:Int->Bool)(s:ByteArray):Nat->Nat->Nat
 |0,i=>i
 |n+1,i=>if i<s.size/\p (eL s i)=true then pq p s n (i+1)else i
def iE(p:Int->Bool)(s:ByteArray)(i:Nat):Nat:=pq p s (s.size+1) i
theorem GS{p:Int->Bool}{s:ByteArray}{k:Nat}(hstop:¬(k<s.size/\p (eL s k)=true)):∀{n i:Nat},i<=k->k<n+i->(∀j,i<=j->j<k->j<s.size/\p (eL s j)=true)->pq p s n i=k
 |0,i,h1,h2,_=>by omega
 |n+1,i,h1,h2,h3=>by
  unfold pq;by_cases e:i=k
  ·subst e;rw[if_neg hstop]
  ·rw[if_pos (h3 i jl jB)];exact GS hstop jB jB fun j hj=>h3 j jB
variable{p:Int->Bool}{s:ByteArray}{i:Nat}
theorem zw{k:Nat}(hstop:¬(k<s.size/\p (eL s k)=true))(h1:i<=k)(hk:k<=s.size)(h3:∀j,i<=j->j<k->p (eL s j)=true):iE p s i=k:=
 GS hstop h1 jB fun j hj hjk=>⟨jB,h3 j hj hjk⟩
theorem yz{p:Int->Bool}{s:ByteArray}:∀{n i:Nat},i<=pq p s n i/\(i<=s.size->pq p s n i<=s.size)
 |0,i=>⟨Nat.le_refl _,id⟩
 |n+1,i=>by
  unfold pq;split
  ·have:=yz (p:=p) (s:=s) (n:=n) (i:=i+1);exact⟨jB,fun _=>this.2 jB⟩
  ·exact⟨Nat.le_refl _,id⟩
theorem uV(h:i<=s.size):i<=iE p s i/\iE p s i<=s.size:=⟨yz.1,yz.2 h⟩
theorem wa(h:i<s.size)(hp:p (eL s i)=true):i<iE p s i:=by unfold iE;unfold pq;rw[if_pos ⟨h,hp⟩];have:=(yz (p:=p) (s:=s) (n:=s.size) (i:=i+1)).1;omega
theorem EK{p:Int->Bool}{s:ByteArray}:∀{n i j:Nat},i<=j->j<pq p s n i->p (eL s j)=true
 |0,i,j,h1,h2=>by unfold pq at h2;omega
 |n+1,i,j,h1,h2=>by
  unfold pq at h2;split at h2
  ·rename_i h;by_cases e:j=i
   ·subst e;exact h.2
   ·exact EK jB h2
  ·omega
-- kq between tokens
def yT(c:Int):Bool:=decide (c=32) || decide (c=9) || decide (c=13) || decide (c=10)
def zc(s:ByteArray)(i:Nat):Bool:=decide (eL s i=47) && decide (i+1<s.size) && decide (eL s (i+1:Nat)=47)
def rP(c:Int):Bool:=decide (c≠10)
def me(s:ByteArray)(i:Nat):Option Nat:=if i<s.size then(if yT (eL s i)=true then some (i+1)else if zc s i=true then some (iE rP s i)else none)else none
def mR(s:ByteArray):Nat->Nat->Nat
 |0,i=>i
 |n+1,i=>match me s i with
  |some j=>mR s n j
  |none=>i
theorem y6{j:Nat}(h:me s i=some j):i<j/\j<=s.size:=by
 unfold me at h;split at h
 ·rename_i hi;split at h
  ·cases h;omega
  ·split at h
   ·rename_i hc;cases h;have hne:rP (eL s i)=true:=by
     simp only[zc,Bool.and_eq_true,decide_eq_true_eq]at hc;simp[rP,hc.1.1]
    exact⟨wa hi hne,(uV jB).2⟩
   ·cases h
 ·cases h
theorem Hv(s:ByteArray):∀(n m i:Nat),s.size<n+i->s.size<m+i->mR s n i=mR s m i
 |0,0,i,_,_=>rfl
 |0,m+1,i,h,_=>by
  unfold mR;have:me s i=none:=by unfold me;rw[jN]
  rw[this]
 |n+1,0,i,_,h=>by
  unfold mR;have:me s i=none:=by unfold me;rw[jN]
  rw[this]
 |n+1,m+1,i,h1,h2=>by
  unfold mR;cases e:me s i with
  |none=>rfl
  |some j=> have:=y6 e;exact Hv s n m j jB jB
def nV(s:ByteArray)(i:Nat):Nat:=mR s (s.size+1) i
theorem Fv{j:Nat}(h:me s i=some j):nV s i=nV s j:=by have:=y6 h;show mR s (s.size+1) i=mR s (s.size+1) j;rw[mR,h];exact Hv s _ _ j jB jB
theorem Ds(h:me s i=none):nV s i=i:=by show mR s (s.size+1) i=i;rw[mR,h]
theorem z6{s:ByteArray}:∀{n i:Nat},i<=mR s n i/\(i<=s.size->mR s n i<=s.size)
 |0,i=>⟨Nat.le_refl _,id⟩
 |n+1,i=>by
  unfold mR;cases e:me s i with
  |none=>exact⟨Nat.le_refl _,id⟩
  |some j=> have h1:=y6 e;have h2:=z6 (s:=s) (n:=n) (i:=j);exact⟨by simp only;omega,fun _=>h2.2 h1.2⟩
theorem vk(h:i<=s.size):i<=nV s i/\nV s i<=s.size:=⟨z6.1,z6.2 h⟩
-- tokens
def um(c:Int):Bool:=decide (32<=c) && decide (c<=126) && decide (c≠34)
def oh(s:ByteArray)(a:Nat):ByteArray×Int×Int:=
 let i:=iE um s (a+1)
 if i<s.size/\eL s i=34 then(if(i:Int)-a-1>12 then(⟨#[]⟩,a,4)else(s.extract (a+1) i,(i:Int)+1,0))else(⟨#[]⟩,a,11)
def jb:List ByteArray:=[(⟨#[124,124]⟩:ByteArray),(⟨#[38,38]⟩:ByteArray),(⟨#[60,61]⟩:ByteArray),(⟨#[61,61]⟩:ByteArray),(⟨#[33,61]⟩:ByteArray)]
def ik:ByteArray:=(⟨#[40,41,123,125,91,93,44,59,61,60,43,45,42,47,37,33]⟩:ByteArray)
def p8(s t:ByteArray):Bool:=decide (2<=(s.size:Int)) && decide (s.extract 0 2=t)
def nE(s:ByteArray):ByteArray:=match jb.find? (p8 s)with
 |some t=>t
 |none=>match (List.range 16).find? fun k:Nat=>decide (eL s 0=eL ik (k:Nat))with
  |some k=>ik.extract k (k+1)
  |none=>⟨#[]⟩
def oL(c:Int):Bool:=wl c || jY c || decide (c=95)
theorem NH{b:ByteArray}(h:b.size=0):b=⟨#[]⟩:=by obtain⟨d⟩:=b;have:d=#[]:=Array.size_eq_zero_iff.1 h;rw[this]
def vw:ce:=⟨0,⟨#[]⟩,0⟩
def gS(s:ByteArray)(a:Nat):ce×Int×Int:=
 if jY (eL s a)=true then
  (if xd (s.extract a (iE jY s a))=true then(⟨1,s.extract a (iE jY s a),a⟩,(iE jY s a:Nat),0)else(vw,a,12))
 else if wl (eL s a)=true then
  (if vt (s.extract a (iE oL s a))=true then(⟨4,s.extract a (iE oL s a),a⟩,(iE oL s a:Nat),0)
  else if((s.extract a (iE oL s a)).size:Int)>8 then(vw,a,13)else(⟨3,s.extract a (iE oL s a),a⟩,(iE oL s a:Nat),0))
 else if eL s a=34 then(⟨2,(oh s a).1,a⟩,(oh s a).2.1,(oh s a).2.2)
 else if nE (s.extract a s.size)=⟨#[]⟩then(vw,a,10)
 else(⟨5,nE (s.extract a s.size),a⟩,a+(nE (s.extract a s.size)).size,0)
theorem Js(s:ByteArray):(nE s).size<=2:=by
 unfold nE;cases h:jb.find? (p8 s)with
 |some t=> have hm:=List.mem_of_find?_eq_some h;have:∀t∈jb,t.size<=2:=jC;exact this t hm
 |none=>
  cases h2:(List.range 16).find? fun k:Nat=>decide (eL s 0=eL ik (k:Nat))with
  |some k=> simp only;rw[ByteArray.size_extract];omega
  |none=>decide
theorem Ka{t:ByteArray}(h:jb.find? (p8 s)=some t):t.size=2/\2<=s.size:=by have hm:=List.mem_of_find?_eq_some h;have hp:=List.find?_some h;have:∀t∈jb,t.size=2:=jC;simp only[p8,Bool.and_eq_true,decide_eq_true_eq]at hp;exact⟨this t hm,jB⟩
theorem MT(hs:0<s.size):(nE s).size<=s.size:=by
 unfold nE;cases h:jb.find? (p8 s)with
 |some t=>have:=Ka h;simp only;omega
 |none=>
  cases h2:(List.range 16).find? fun k:Nat=>decide (eL s 0=eL ik (k:Nat))with
  |some k=> simp only;rw[ByteArray.size_extract];omega
  |none=>exact Nat.zero_le _
theorem yX{a:Nat}(ha:a<s.size)(h:(gS s a).2.2=0):∃e:Nat,(gS s a).2.1=e/\a<e/\e<=s.size:=by
 unfold gS at h ⊢;split at h<;>rename_i h1
 ·rw[if_pos h1]at*;split at h<;>rename_i h2
  ·rw[if_pos h2];exact⟨_,rfl,wa ha h1,(uV jB).2⟩
  ·cases h
 ·rw[if_neg h1]at*;split at h<;>rename_i h2
  ·rw[if_pos h2];have hw:oL (eL s a)=true:=by simp[oL,h2]
   split at h<;>rename_i h3
   ·rw[if_pos h3];exact⟨_,rfl,wa ha hw,(uV jB).2⟩
   ·rw[if_neg h3];split at h<;>rename_i h4
    ·cases h
    ·rw[if_neg h4];exact⟨_,rfl,wa ha hw,(uV jB).2⟩
  ·rw[if_neg h2];split at h<;>rename_i h3
   ·rw[if_pos h3];have hb:=uV (p:=um) (s:=s) (i:=a+1) jB;simp only[oh]at h ⊢;split at h<;>rename_i h4
    ·rw[if_pos h4];split at h<;>rename_i h5
     ·cases h
     ·rw[if_neg h5];exact⟨iE um s (a+1)+1,jE,jB,jB⟩
    ·cases h
   ·rw[if_neg h3];split at h<;>rename_i h4
    ·cases h
    ·rw[if_neg h4];have hsz:(s.extract a s.size).size=s.size-a:=by rw[ByteArray.size_extract];omega
     have hle:=MT (s:=s.extract a s.size) jB;have hpos:0<(nE (s.extract a s.size)).size:=by
      rcases Nat.eq_zero_or_pos (nE (s.extract a s.size)).size with e|e
      ·exact(h4 (NH e)).elim
      ·exact e
     exact⟨a+(nE (s.extract a s.size)).size,jE,jB,jB⟩
def lp(s:ByteArray):Nat->Nat->List ce->List ce×Int×Int
 |0,_,out=>(out,0,0)
 |n+1,i,out=>if i<s.size then
   (if(gS s i).2.2=0 then lp s n (nV s (gS s i).2.1.toNat) (out++[(gS s i).1])else([],((i:Nat):Int),(gS s i).2.2))
  else(out++[⟨0,⟨#[]⟩,s.size⟩],0,0)
theorem FT(s:ByteArray):∀(n m i:Nat) (out:List ce),s.size<n+i->s.size<m+i->i<=s.size->lp s n i out=lp s m i out
 |0,_,i,_,h,_,h3=>by omega
 |_,0,i,_,_,h,h3=>jB
 |n+1,m+1,i,out,h1,h2,h3=>by
  unfold lp;split
  ·rename_i hi;split
   ·rename_i he;obtain⟨e,h4,h5,h6⟩:=yX hi he;rw[h4,Int.toNat_natCast];have:=vk (s:=s) (i:=e) h6;exact FT s n m _ _ jB jB this.2
   ·rfl
  ·rfl
def uN(s:ByteArray)(i:Nat)(out:List ce):List ce×Int×Int:=lp s (s.size+1) i out
theorem PV{out:List ce}(hi:i<s.size)(he:(gS s i).2.2=0):uN s i out=uN s (nV s (gS s i).2.1.toNat) (out++[(gS s i).1]):=by show lp s (s.size+1) i out=lp s (s.size+1) _ _;rw[lp,if_pos hi,if_pos he];obtain⟨e,h4,h5,h6⟩:=yX hi he;rw[h4,Int.toNat_natCast];have:=vk (s:=s) (i:=e) h6;exact FT s _ _ _ _ jB jB this.2
theorem OR{out:List ce}(hi:i<s.size)(he:(gS s i).2.2≠0):uN s i out=([],((i:Nat):Int),(gS s i).2.2):=by show lp s (s.size+1) i out=_;rw[lp,if_pos hi,if_neg he]
theorem JR{out:List ce}(hi:¬i<s.size):uN s i out=(out++[⟨0,⟨#[]⟩,s.size⟩],0,0):=by show lp s (s.size+1) i out=_;rw[lp,if_neg hi]
def kF(s:ByteArray):List ce×Int×Int:=if(s.size:Int)>600 then([],0,4)else uN s (nV s 0) []
structure Rd where
 src:ByteArray
 l:List ce
 i:Int
 nodes:List bk
 deep:Int
 e:Int
 at_:Int
 deriving Inhabited
namespace Rd
def tok(r:Rd):ce:=nth r.l r.i.toNat
def aF(r:Rd)(e:Int):Rd:=if r.e=0 then{ r with e:=e,at_:=r.tok.at_ }else r
def is(r:Rd)(t:ByteArray):Bool:=decide (r.e=0) && (decide (r.tok.kind=5) || decide (r.tok.kind=4)) && decide (r.tok.text=t)
def kind(r:Rd)(k:Int):Bool:=decide (r.e=0) && decide (r.tok.kind=k)
def inc(r:Rd):Rd:={ r with i:=r.i+1 }
def ap(r:Rd)(t:ByteArray):Rd:=if r.is t=true then r.inc else r.aF 20
def name(r:Rd):Rd×ByteArray:=if r.kind 3=true then(r.inc,r.tok.text)else(r.aF 20,⟨#[]⟩)
def cz(r:Rd):Int:=oX r.src (min r.src.size r.tok.at_.toNat)
def node(r:Rd)(n:bk):Rd:={ r with nodes:=r.nodes++[n] }
def put(r:Rd)(k ln n:Int)(nm:ByteArray)(L:List Int):Rd×Int:=(r.node ⟨k,ln,n,nm,L⟩,r.nodes.length)
def down(r:Rd):Rd:={ (if 16<=r.deep then r.aF 21 else r)with deep:=r.deep+1 }
def up(r:Rd):Rd:={ r with deep:=r.deep-1 }
end Rd
def ni(level:Int):List ByteArray:=
 if level=0 then[(⟨#[124,124]⟩:ByteArray)]else if level=1 then[(⟨#[38,38]⟩:ByteArray)]else if level=2 then[(⟨#[60]⟩:ByteArray),(⟨#[60,61]⟩:ByteArray),(⟨#[61,61]⟩:ByteArray),(⟨#[33,61]⟩:ByteArray)]else if level=3 then[(⟨#[43]⟩:ByteArray),(⟨#[45]⟩:ByteArray)]else[(⟨#[42]⟩:ByteArray),(⟨#[47]⟩:ByteArray),(⟨#[37]⟩:ByteArray)]
namespace Rd
section
variable (r:Rd)(e:Int)
@[go_sem] theorem Fb:(r.aF e).src=r.src:=by unfold aF;split<;>rfl
@[go_sem] theorem gz:(r.aF e).l=r.l:=by unfold aF;split<;>rfl
@[go_sem] theorem vr:(r.aF e).i=r.i:=by unfold aF;split<;>rfl
@[go_sem] theorem dG:(r.aF e).nodes=r.nodes:=by unfold aF;split<;>rfl
@[go_sem] theorem JC:(r.aF e).deep=r.deep:=by unfold aF;split<;>rfl
end
section
variable (r:Rd)
@[go_sem] theorem j5z:r.inc.src=r.src:=(rfl)
@[go_sem] theorem qaX:r.inc.l=r.l:=(rfl)
@[go_sem] theorem qaW:r.inc.i=r.i+1:=(rfl)
@[go_sem] theorem j1M:r.inc.nodes=r.nodes:=(rfl)
@[go_sem] theorem j35:r.inc.deep=r.deep:=(rfl)
@[go_sem] theorem qaV:r.inc.e=r.e:=(rfl)
@[go_sem] theorem j8d:r.inc.at_=r.at_:=(rfl)
@[go_sem] theorem j8W:r.up.src=r.src:=(rfl)
@[go_sem] theorem qbZ:r.up.l=r.l:=(rfl)
@[go_sem] theorem qbY:r.up.i=r.i:=(rfl)
@[go_sem] theorem j4l:r.up.nodes=r.nodes:=(rfl)
@[go_sem] theorem j5Q:r.up.deep=r.deep-1:=(rfl)
@[go_sem] theorem qbX:r.up.e=r.e:=(rfl)
@[go_sem] theorem qbD:r.up.at_=r.at_:=(rfl)
end
def next(r:Rd)(level:Int):ByteArray:=match (ni level).find? (fun s=>r.is s)with
 |some s=>s
 |none=>⟨#[]⟩
def nt(r:Rd):ce:=nth r.l (r.i+1).toNat
def calls(r:Rd):Bool:=r.kind 3 && decide (r.nt.kind=5) && decide (r.nt.text=(⟨#[40]⟩:ByteArray))
def word(r:Rd):ByteArray:=if r.kind 4=true then r.tok.text else⟨#[]⟩
end Rd
def wb(s:ByteArray):Nat->Int
 |0=>0
 |k+1=>wb s k*10+(eL s k-48)
def pj(s:ByteArray):Int:=wb s s.size
mutual
def qm:Nat->Rd->Rd×Int
 |0,r=>(r,0)
 |n+1,r=>
  if r.e≠0 then(r,0)
  else if r.tok.kind=1 then r.inc.put 1 r.cz (pj r.tok.text) ⟨#[]⟩ []
  else if r.tok.kind=2 then r.inc.put 3 r.cz 0 r.tok.text []
  else if r.tok.kind=3 then
   (if r.inc.is (⟨#[91]⟩:ByteArray)=true then
    (((dV n 0 (r.inc.down.ap (⟨#[91]⟩:ByteArray))).1.ap (⟨#[93]⟩:ByteArray)).up).put 5 r.cz 0 r.tok.text [(dV n 0 (r.inc.down.ap (⟨#[91]⟩:ByteArray))).2]
   else r.inc.put 4 r.cz 0 r.tok.text [])
  else if r.is (⟨#[116,114,117,101]⟩:ByteArray)=true then r.inc.put 2 r.cz 1 ⟨#[]⟩ []
  else if r.is (⟨#[102,97,108,115,101]⟩:ByteArray)=true then r.inc.put 2 r.cz 0 ⟨#[]⟩ []
  else if r.is (⟨#[108,101,110]⟩:ByteArray)=true then
   (if r.inc.is (⟨#[40]⟩:ByteArray)=true then
    (((dV n 0 (r.inc.down.ap (⟨#[40]⟩:ByteArray))).1.ap (⟨#[41]⟩:ByteArray)).up).put 6 r.cz 0 ⟨#[]⟩ [(dV n 0 (r.inc.down.ap (⟨#[40]⟩:ByteArray))).2]
   else(r.inc.aF 20,0))
  else if r.is (⟨#[40]⟩:ByteArray)=true then
   (((dV n 0 (r.down.ap (⟨#[40]⟩:ByteArray))).1.ap (⟨#[41]⟩:ByteArray)).up,(dV n 0 (r.down.ap (⟨#[40]⟩:ByteArray))).2)
  else(r.aF 20,0)
def iq:Nat->Rd->Rd×Int
 |0,r=>(r,0)
 |n+1,r=>
  if r.is (⟨#[45]⟩:ByteArray)=true then((iq n r.down.inc).1.up).put 7 r.cz 0 ⟨#[]⟩ [(iq n r.down.inc).2]
  else if r.is (⟨#[33]⟩:ByteArray)=true then((iq n r.down.inc).1.up).put 8 r.cz 0 ⟨#[]⟩ [(iq n r.down.inc).2]
  else qm n r
def dV:Nat->Nat->Rd->Rd×Int
 |0,_,r=>(r,0)
 |n+1,lv,r=>if lv=5 then iq n r else oo n lv r.cz (dV n (lv+1) r)
def oo:Nat->Nat->Int->Rd×Int->Rd×Int
 |0,_,_,p=>p
 |n+1,lv,ln,p=>
  if p.1.next lv=⟨#[]⟩then p
  else if lv=2 then((dV n (lv+1) p.1.inc).1).put 9 ln 0 (p.1.next lv) [p.2,(dV n (lv+1) p.1.inc).2]
  else oo n lv ln (((dV n (lv+1) p.1.inc).1).put 9 ln 0 (p.1.next lv) [p.2,(dV n (lv+1) p.1.inc).2])
end
-- what is kept
def Rd.rem(r:Rd):Nat:=if r.e=0 then(r.l.length-r.i).toNat else 0
def Rd.dM(r:Rd):Int:=r.nodes.length+3*(r.l.length-r.i)+if r.e=0 then 1 else 0
def qu(s:ByteArray):Prop:=0<s.size/\xd s=true/\∀j,j<s.size->jY (eL s j)=true
structure Rd.Inv(r:Rd):Prop where
 src:r.src.size<=1000
 pos:0<=r.i
 lt:r.i<r.l.length
 len:r.l.length<=2000
 num:∀k,k<r.l.length->(nth r.l k).kind=1->qu (nth r.l k).text
 tk:∀k,k<r.l.length->(nth r.l k).kind≠0->k+1<r.l.length
 oT:0<=r.deep
 pM:r.deep<=17
 PB:r.e=0->r.deep<=16
 dM:r.dM<=8000
structure Rd.St(r r':Rd):Prop where
 src:r'.src=r.src
 l:r'.l=r.l
 deep:r'.deep=r.deep
 i:r.i<=r'.i
 lt:r'.i<r.l.length
 dM:r'.dM<=r.dM
 err:r.e≠0->r'.e≠0
variable{r r':Rd}
theorem Rd.St.inv(s:Rd.St r r')(h:r.Inv):r'.Inv:=by
 obtain⟨s1,s2,s3,s4,s5,s6,s7⟩:=s;obtain⟨h1,h2,h3,h4,hn,h5,h6,h7,h8,h9⟩:=h;exact⟨by rw[s1];exact h1,jB,by rw[s2];exact s5,by rw[s2];exact h4,by rw[s2];exact hn,by rw[s2];exact h5,jB,jB,fun h=>by rw[s3];exact h8 (Classical.byContradiction fun e=>s7 e h),jB⟩
theorem Rd.St.refl(h:r.Inv):Rd.St r r:=⟨rfl,rfl,rfl,Int.le_refl _,h.lt,Int.le_refl _,id⟩
theorem Rd.St.trans{a b c:Rd}(h:Rd.St a b)(k:Rd.St b c):Rd.St a c:=
 ⟨k.src.trans h.src,k.l.trans h.l,k.deep.trans h.deep,Int.le_trans h.i k.i,by have:=k.lt;rw[h.l]at this;exact this,Int.le_trans k.dM h.dM,fun e=>k.err (h.err e)⟩
theorem Rd.St.rem{r r':Rd}(s:Rd.St r r'):r'.rem<=r.rem:=by
 unfold Rd.rem;have h1:=s.i;have h2:=s.l;by_cases e:r.e=0
 ·rw[if_pos e,h2];split<;>omega
 ·rw[if_neg e,if_neg (s.err e)];exact Nat.le_refl _
theorem Rd.behind(h:r.Inv)(hk:r.tok.kind≠0):r.i+1<r.l.length:=by have:=h.tk r.i.toNat (by have:=h.lt;have:=h.pos;omega) hk;have:=h.pos;omega
theorem Rd.aU{t:ByteArray}(h:r.is t=true):r.e=0/\r.tok.kind≠0:=by simp only[Rd.is,Bool.and_eq_true,Bool.or_eq_true,decide_eq_true_eq]at h;exact⟨h.1.1,by rcases h.1.2 with h|h<;>omega⟩
theorem Rd.dJ{k:Int}(h:r.kind k=true)(h0:k≠0):r.e=0/\r.tok.kind≠0:=by simp only[Rd.kind,Bool.and_eq_true,decide_eq_true_eq]at h;exact⟨h.1,jB⟩
theorem Rd.fN(h:r.Inv)(e:Int)(he:e≠0):Rd.St r (r.aF e):=by
 refine⟨Fb _ _,gz _ _,JC _ _,by rw[vr];exact Int.le_refl _,by rw[vr];exact h.lt,?_,fun h1=>by unfold aF;rw[if_neg h1];exact h1⟩;unfold Rd.dM;rw[dG,gz,vr];by_cases e0:r.e=0
 ·have:(r.aF e).e=e:=by unfold aF;rw[if_pos e0]
  rw[this,if_pos e0,if_neg he];omega
 ·have:(r.aF e).e=r.e:=by unfold aF;rw[if_neg e0]
  rw[this];omega
theorem Rd.bn(h:r.Inv)(hk:r.tok.kind≠0):Rd.St r r.inc/\r.inc.dM=r.dM-3:=by
 have:=Rd.behind h hk;have e:r.inc.dM=r.dM-3:=by simp only[Rd.dM,Rd.inc];omega
 exact⟨⟨rfl,rfl,rfl,by simp only[Rd.inc];omega,by simp only[Rd.inc];omega,jB,id⟩,e⟩
theorem Rd.aM(h:r.Inv)(t:ByteArray):Rd.St r (r.ap t):=by
 unfold Rd.ap;split
 ·rename_i hs;exact(Rd.bn h (Rd.aU hs).2).1
 ·exact Rd.fN h 20 jC
theorem Rd.df(h:r.Inv):Rd.St r r.name.1:=by
 unfold Rd.name;split
 ·rename_i hs;exact(Rd.bn h (Rd.dJ hs jC).2).1
 ·exact Rd.fN h 20 jC
theorem Rd.mc(r:Rd)(n:bk):(r.node n).dM=r.dM+1:=by simp only[Rd.dM,Rd.node,List.length_append,List.length_cons,List.length_nil];omega
theorem Rd.cS(s:Rd.St r r')(hp:r'.dM+1<=r.dM)(k ln n:Int)(nm:ByteArray)(L:List Int):Rd.St r (r'.put k ln n nm L).1:=
 ⟨s.src,s.l,s.deep,s.i,s.lt,by show(r'.node _).dM<=_;rw[Rd.mc];exact hp,s.err⟩
theorem Rd.tP:r.down.e=(if 16<=r.deep then r.aF 21 else r).e:=rfl
theorem Rd.bK(h:r.Inv)(he:r.e=0):r.down.Inv/\r.down.dM<=r.dM/\r.down.i=r.i/\r.down.l=r.l/\r.down.src=r.src/\r.down.deep=r.deep+1:=by
 have hd:=h.PB he;have hi:r.down.i=r.i:=by unfold Rd.down;split<;>simp[vr]
 have hl:r.down.l=r.l:=by unfold Rd.down;split<;>simp[gz]
 have hs:r.down.src=r.src:=by unfold Rd.down;split<;>simp[Fb]
 have hn:r.down.nodes=r.nodes:=by unfold Rd.down;split<;>simp[dG]
 have hdd:r.down.deep=r.deep+1:=rfl;have hee:r.down.e=0->r.deep<16:=fun e=>by
  rw[Rd.tP]at e;split at e
  ·unfold aF at e;rw[if_pos he]at e;cases e
  ·omega
 have hp:r.down.dM<=r.dM:=by unfold Rd.dM;rw[hn,hl,hi,if_pos he];split<;>omega
 refine⟨⟨by rw[hs];exact h.src,by rw[hi];exact h.pos,by rw[hi,hl];exact h.lt,by rw[hl];exact h.len,by rw[hl];exact h.num,by rw[hl];exact h.tk,by have:=h.oT;omega,jB,fun e=>by have:=hee e;omega,by have:=h.dM;omega⟩,hp,hi,hl,hs,hdd⟩
theorem Rd.fq(h:r.Inv)(he:r.e=0)(s:Rd.St r.down r'):Rd.St r r'.up:=by obtain⟨_,h1,h2,h3,h4,h5⟩:=Rd.bK h he;exact⟨s.src.trans h4,s.l.trans h3,by show r'.deep-1=_;rw[s.deep,h5];omega,by show r.i<=r'.i;rw[<-h2];exact s.i,by show r'.i<_;rw[<-h3];exact s.lt,by show r'.dM<=_;have:=s.dM;omega,fun e=>(e he).elim⟩
theorem Rd.lE{lv:Int}(h:r.next lv≠⟨#[]⟩):r.is (r.next lv)=true:=by
 unfold Rd.next at h ⊢;cases e:(ni lv).find? (fun s=>r.is s)with
 |none=>rw[e]at h;exact(h rfl).elim
 |some s=>exact List.find?_some e
theorem Rd.cX(h:r.Inv)(hk:r.e=0/\r.tok.kind≠0):r.inc.rem+1<=r.rem:=by have:=Rd.behind h hk.2;unfold Rd.rem;rw[if_pos hk.1,if_pos (show r.inc.e=0 from hk.1)];have:r.inc.i=r.i+1:=rfl;have:r.inc.l=r.l:=rfl;simp only[*];omega
theorem rG:∀n,(∀r:Rd,r.Inv->Rd.St r (qm n r).1)/\(∀r:Rd,r.Inv->Rd.St r (iq n r).1)/\(∀lv (r:Rd),r.Inv->Rd.St r (dV n lv r).1)/\(∀lv ln (p:Rd×Int),p.1.Inv->Rd.St p.1 (oo n lv ln p).1)
 |0=>⟨fun r h=>by unfold qm;exact .refl h,fun r h=>by unfold iq;exact .refl h,fun lv r h=>by unfold dV;exact .refl h,fun lv ln p h=>by unfold oo;exact .refl h⟩
 |n+1=>by
  obtain⟨ia,kz,ic,il⟩:=rG n
  -- a token, and what is behind it, bs
  have bs:∀(r:Rd) (t u:ByteArray),r.Inv->r.e=0->Rd.St r ((dV n 0 (r.down.ap t)).1.ap u).up:=fun r t u h he=>by have h1:=(Rd.bK h he).1;have s1:=Rd.aM h1 t;have s2:=ic 0 _ (s1.inv h1);have s12:=s1.trans s2;have s3:=Rd.aM (s12.inv h1) u;exact Rd.fq h he (s12.trans s3)
  refine⟨fun r h=>?_,fun r h=>?_,fun lv r h=>?_,fun lv ln p h=>?_⟩
  ·unfold qm;split
   ·exact .refl h
   rename_i he;have he:r.e=0:=jB;split
   ·rename_i hk;obtain⟨s1,e1⟩:=Rd.bn h jB;exact Rd.cS s1 jB _ _ _ _ _
   split
   ·rename_i hk;obtain⟨s1,e1⟩:=Rd.bn h jB;exact Rd.cS s1 jB _ _ _ _ _
   split
   ·rename_i hk;obtain⟨s1,e1⟩:=Rd.bn h jB;split
    ·have s2:=bs r.inc (⟨#[91]⟩:ByteArray) (⟨#[93]⟩:ByteArray) (s1.inv h) he;exact Rd.cS (s1.trans s2) (by have:=s2.dM;omega) _ _ _ _ _
    ·exact Rd.cS s1 jB _ _ _ _ _
   split
   ·rename_i hs;obtain⟨s1,e1⟩:=Rd.bn h (Rd.aU hs).2;exact Rd.cS s1 jB _ _ _ _ _
   split
   ·rename_i hs;obtain⟨s1,e1⟩:=Rd.bn h (Rd.aU hs).2;exact Rd.cS s1 jB _ _ _ _ _
   split
   ·rename_i hs;obtain⟨s1,e1⟩:=Rd.bn h (Rd.aU hs).2;split
    ·have s2:=bs r.inc (⟨#[40]⟩:ByteArray) (⟨#[41]⟩:ByteArray) (s1.inv h) he;exact Rd.cS (s1.trans s2) (by have:=s2.dM;omega) _ _ _ _ _
    ·exact s1.trans (Rd.fN (s1.inv h) 20 jC)
   split
   ·exact bs r (⟨#[40]⟩:ByteArray) (⟨#[41]⟩:ByteArray) h he
   ·exact Rd.fN h 20 jC
  ·unfold iq;have sg:∀t,r.is t=true->∀k ln nm,Rd.St r (((iq n r.down.inc).1.up).put k ln 0 nm [(iq n r.down.inc).2]).1:=fun t ht k ln nm=>by
    obtain⟨he,hk⟩:=Rd.aU ht;obtain⟨h1,h2,h3,h4,_⟩:=Rd.bK h he;have htk:r.down.tok=r.tok:=by unfold Rd.tok;rw[h3,h4]
    obtain⟨s1,e1⟩:=Rd.bn h1 (by rw[htk];exact hk);have s2:=kz _ (s1.inv h1);exact Rd.cS (Rd.fq h he (s1.trans s2)) (by have:=s2.dM;show(iq n r.down.inc).1.dM+1<=_;omega) _ _ _ _ _
   split
   ·rename_i ht;exact sg _ ht _ _ _
   split
   ·rename_i ht;exact sg _ ht _ _ _
   ·exact ia r h
  ·unfold dV;split
   ·exact kz r h
   ·have s1:=ic (lv+1) r h;exact s1.trans (il _ _ _ (s1.inv h))
  ·unfold oo;split
   ·exact .refl h
   rename_i hn;obtain⟨s1,e1⟩:=Rd.bn h (Rd.aU (Rd.lE hn)).2;have s2:=ic (lv+1) _ (s1.inv h);have s3:=fun L=>Rd.cS (s1.trans s2) (by have:=s2.dM;omega) 9 ln 0 (p.1.next lv) L
   split
   ·exact s3 _
   ·exact(s3 _).trans (il _ _ _ ((s3 _).inv h))
def cW(r:Rd):Rd×Int:=dV (8*r.rem+8) 0 r
def mM:Nat->Bool->Rd->List Int->Rd×List Int
 |0,_,r,L=>(r,L)
 |_+1,false,r,L=>(r,L)
 |n+1,true,r,L=>if(cW r).1.is (⟨#[44]⟩:ByteArray)=true then mM n true (cW r).1.inc (L++[(cW r).2])else((cW r).1,L++[(cW r).2])
def more(r:Rd):Bool:=!(r.is (⟨#[41]⟩:ByteArray)) && decide (r.e=0)
def oF(r:Rd):Rd:=r.name.1.ap (⟨#[40]⟩:ByteArray)
def nI(r:Rd):Rd×List Int:=mM ((oF r).rem+2) (more (oF r)) (oF r) []
def mv(r:Rd):Rd×Int:=((nI r).1.ap (⟨#[41]⟩:ByteArray)).put 21 r.cz 0 r.name.2 (nI r).2
def lr(r:Rd):Rd×Int:=
 if r.is (⟨#[105,110,112,117,116]⟩:ByteArray)=true then r.inc.put 19 r.cz 0 ⟨#[]⟩ []
 else if r.is (⟨#[110,101,119]⟩:ByteArray)=true then((cW (r.inc.ap (⟨#[40]⟩:ByteArray))).1.ap (⟨#[41]⟩:ByteArray)).put 20 r.cz 0 ⟨#[]⟩ [(cW (r.inc.ap (⟨#[40]⟩:ByteArray))).2]
 else if r.calls=true then mv r else cW r
def oE(r:Rd):Rd×Int:=cW (r.down.ap (⟨#[91]⟩:ByteArray))
def uP(r:Rd):Rd×Int:=cW (((oE r).1.ap (⟨#[93]⟩:ByteArray)).up.ap (⟨#[61]⟩:ByteArray))
def pP(r:Rd)(ln:Int):Rd×Int:=
 if r.calls=true then((mv r).1.ap (⟨#[59]⟩:ByteArray)).put 13 ln 0 ⟨#[]⟩ [(mv r).2]
 else if r.name.1.is (⟨#[91]⟩:ByteArray)=true then((uP r.name.1).1.ap (⟨#[59]⟩:ByteArray)).put 12 ln 0 r.name.2 [(oE r.name.1).2,(uP r.name.1).2]
 else((lr (r.name.1.ap (⟨#[61]⟩:ByteArray))).1.ap (⟨#[59]⟩:ByteArray)).put 11 ln 0 r.name.2 [(lr (r.name.1.ap (⟨#[61]⟩:ByteArray))).2]
mutual
def fU:Nat->Rd->Rd×Int
 |0,r=>(r,0)
 |n+1,r=>
  if r.is (⟨#[123]⟩:ByteArray)=true then((mn n (r.down.ap (⟨#[123]⟩:ByteArray)) []).1.ap (⟨#[125]⟩:ByteArray)).up.put 18 r.cz 0 ⟨#[]⟩ (mn n (r.down.ap (⟨#[123]⟩:ByteArray)) []).2
  else(r.aF 20,0)
def mn:Nat->Rd->List Int->Rd×List Int
 |0,r,L=>(r,L)
 |n+1,r,L=>if r.e=0/\r.is (⟨#[125]⟩:ByteArray)=false then mn n (nC n r).1 (L++[(nC n r).2])else(r,L)
def nC:Nat->Rd->Rd×Int
 |0,r=>(r,0)
 |n+1,r=>
  if r.word=(⟨#[108,101,116]⟩:ByteArray)then((lr (r.inc.name.1.ap (⟨#[61]⟩:ByteArray))).1.ap (⟨#[59]⟩:ByteArray)).put 10 r.cz 0 r.inc.name.2 [(lr (r.inc.name.1.ap (⟨#[61]⟩:ByteArray))).2]
  else if r.word=(⟨#[112,114,105,110,116]⟩:ByteArray)then((cW r.inc).1.ap (⟨#[59]⟩:ByteArray)).put 14 r.cz 0 ⟨#[]⟩ [(cW r.inc).2]
  else if r.word=(⟨#[119,104,105,108,101]⟩:ByteArray)then(fU n (cW r.inc).1).1.put 16 r.cz 0 ⟨#[]⟩ [(cW r.inc).2,(fU n (cW r.inc).1).2]
  else if r.word=(⟨#[105,102]⟩:ByteArray)then
   (if(fU n (cW r.inc).1).1.is (⟨#[101,108,115,101]⟩:ByteArray)=true then(fU n (fU n (cW r.inc).1).1.inc).1.put 15 r.cz 0 ⟨#[]⟩ [(cW r.inc).2,(fU n (cW r.inc).1).2,(fU n (fU n (cW r.inc).1).1.inc).2]
   else(fU n (cW r.inc).1).1.put 15 r.cz 0 ⟨#[]⟩ [(cW r.inc).2,(fU n (cW r.inc).1).2])
  else if r.word=(⟨#[114,101,116,117,114,110]⟩:ByteArray)then
   (if r.inc.is (⟨#[59]⟩:ByteArray)=true then(r.inc.ap (⟨#[59]⟩:ByteArray)).put 17 r.cz 0 ⟨#[]⟩ []
   else((cW r.inc).1.ap (⟨#[59]⟩:ByteArray)).put 17 r.cz 0 ⟨#[]⟩ [(cW r.inc).2])
  else pP r r.cz
end
def ov(r:Rd):Rd×Int:=fU (4*r.rem+4) r
def rz(w:ByteArray):Int:=if w=(⟨#[105,110,116]⟩:ByteArray)then 1 else if w=(⟨#[98,111,111,108]⟩:ByteArray)then 2 else if w=(⟨#[116,101,120,116]⟩:ByteArray)then 3 else if w=(⟨#[108,105,115,116]⟩:ByteArray)then 4 else 0
def iP(r:Rd):Rd×Int:=if rz r.word=0 then(r.aF 20,0)else(r.inc,rz r.word)
def pu(r:Rd):Rd:=(iP r.name.1).1
def mB:Nat->Bool->Rd->List bE->Rd×List bE
 |0,_,r,L=>(r,L)
 |_+1,false,r,L=>(r,L)
 |n+1,true,r,L=>if(pu r).is (⟨#[44]⟩:ByteArray)=true then mB n true (pu r).inc (L++[⟨r.name.2,(iP r.name.1).2⟩])else(pu r,L++[⟨r.name.2,(iP r.name.1).2⟩])
def mK(r:Rd):Rd:=(r.ap (⟨#[102,110]⟩:ByteArray)).name.1.ap (⟨#[40]⟩:ByteArray)
def se(r:Rd):Rd×List bE:=mB ((mK r).rem+2) (more (mK r)) (mK r) []
def lC(r:Rd):Rd:=(se r).1.ap (⟨#[41]⟩:ByteArray)
def l5(r:Rd):Rd×Int:=if(lC r).is (⟨#[123]⟩:ByteArray)=true then(lC r,0)else iP (lC r)
def mw(r:Rd):Rd×aX:=((ov (l5 r).1).1,⟨(r.ap (⟨#[102,110]⟩:ByteArray)).name.2,r.cz,(se r).2,(l5 r).2,(ov (l5 r).1).2⟩)
def p7:Nat->Rd->List aX->Rd×List aX
 |0,r,L=>(r,L)
 |n+1,r,L=>if r.e=0/\r.kind 0=false then p7 n (mw r).1 (L++[(mw r).2])else(r,L)
def nY(s:ByteArray):Rd:=⟨s,(kF s).1,0,[],0,0,0⟩
def nS(s:ByteArray):Rd×List aX:=p7 ((nY s).rem+1) (nY s) []
def s8(t:List bk)(L:List aX):Bool:=decide (300<t.length) || decide (6<L.length) || L.any fun f=>decide (3<f.params.length)
def gH(s:ByteArray):az×Int×Int:=
 if(kF s).2.2≠0 then(⟨[],[]⟩,(kF s).2.1,(kF s).2.2)
 else if(nS s).1.e≠0 then(⟨[],[]⟩,(nS s).1.at_,(nS s).1.e)
 else if s8 (nS s).1.nodes (nS s).2=true then(⟨[],[]⟩,0,4)
 else(⟨(nS s).1.nodes,(nS s).2⟩,0,0)
-- what is kept
theorem Rd.St.ua(s:Rd.St r r')(h:r.Inv)(he:r.e=0)(hi:r.i+1<=r'.i):r'.rem+1<=r.rem:=by have h1:=s.l;have h2:=s.lt;have h3:=h.pos;unfold Rd.rem;rw[if_pos he,h1];split<;>omega
theorem Rd.St.lq(h:r.Inv)(he:r.e=0)(hi:r'.e≠0):r'.rem+1<=r.rem:=by have h2:=h.lt;have h3:=h.pos;unfold Rd.rem;rw[if_pos he,if_neg hi];omega
theorem Rd.gA{e:Int}(he:e≠0):(r.aF e).e≠0:=by
 unfold Rd.aF;split
 ·exact he
 ·assumption
theorem Rd.nw(h:r.Inv)(he:r.e=0)(t:ByteArray):(r.ap t).rem+1<=r.rem/\(r.ap t).dM+1<=r.dM:=by
 unfold Rd.ap;split
 ·rename_i hs;have hk:=Rd.aU hs;exact⟨Rd.cX h hk,by rw[(Rd.bn h hk.2).2];omega⟩
 ·have he':=Rd.gA (r:=r) (e:=20) jC;refine⟨Rd.St.lq h he he',?_⟩;unfold Rd.dM;rw[dG,gz,vr,if_pos he,if_neg he'];omega
theorem Rd.qA(h:r.Inv)(he:r.e=0):r.name.1.rem+1<=r.rem/\r.name.1.dM+1<=r.dM:=by
 unfold Rd.name;split
 ·rename_i hs;have hk:=Rd.dJ hs jC;exact⟨Rd.cX h hk,by show r.inc.dM+1<=_;rw[(Rd.bn h hk.2).2];omega⟩
 ·have he':=Rd.gA (r:=r) (e:=20) jC;refine⟨Rd.St.lq h he he',?_⟩;show(r.aF 20).dM+1<=_;unfold Rd.dM;rw[dG,gz,vr,if_pos he,if_neg he'];omega
theorem Rd.gy(h:r.Inv){t:ByteArray}(ht:r.is t=true):(r.down.ap t).rem+1<=r.rem/\(r.down.ap t).dM+1<=r.dM:=by
 obtain⟨he,hk⟩:=Rd.aU ht;obtain⟨h1,h2,h3,h4,h5,h6⟩:=Rd.bK h he;by_cases e:r.down.e=0
 ·obtain⟨a,b⟩:=Rd.nw h1 e t;have:r.down.rem<=r.rem:=by
   unfold Rd.rem;rw[if_pos he,if_pos e,h3,h4];exact Nat.le_refl _
  omega
 ·have hs:=Rd.aM h1 t;have e2:(r.down.ap t).e≠0:=hs.err e;refine⟨Rd.St.lq h he e2,?_⟩;have:r.down.dM+1<=r.dM:=by
   have hn:r.down.nodes=r.nodes:=by unfold Rd.down;split<;>simp[dG]
   unfold Rd.dM;rw[hn,h4,h3,if_pos he,if_neg e];omega
  have:=hs.dM;omega
theorem jM(h:r.Inv):Rd.St r (cW r).1:=(rG _).2.2.1 0 r h
theorem CY:∀(n:Nat) (b:Bool) (r:Rd) (L:List Int),r.Inv->Rd.St r (mM n b r L).1
 |0,_,r,L,h=>by unfold mM;exact .refl h
 |n+1,false,r,L,h=>by unfold mM;exact .refl h
 |n+1,true,r,L,h=>by
  have s1:=jM h;have h1:=s1.inv h;unfold mM;split
  ·rename_i hs;have s2:=(Rd.bn h1 (Rd.aU hs).2).1;exact(s1.trans s2).trans (CY n _ _ _ (s2.inv h1))
  ·exact s1
theorem yy(h:r.Inv):Rd.St r (oF r):=(Rd.df h).trans (Rd.aM ((Rd.df h).inv h) _)
theorem AX(h:r.Inv):Rd.St r (nI r).1:=(yy h).trans (CY _ _ _ _ ((yy h).inv h))
theorem PU(h:r.Inv):Rd.St r ((nI r).1.ap (⟨#[41]⟩:ByteArray)):=(AX h).trans (Rd.aM ((AX h).inv h) _)
theorem Rd.jO(h:r.calls=true):r.kind 3=true:=by unfold Rd.calls at h;simp only[Bool.and_eq_true]at h;exact h.1.1
theorem Bp(h:r.Inv)(hc:r.calls=true):Rd.St r (mv r).1/\(mv r).1.dM+2<=r.dM/\(mv r).1.rem+1<=r.rem:=by
 have hk:=Rd.dJ (Rd.jO hc) jC;have hn:r.name.1=r.inc:=by unfold Rd.name;rw[if_pos (Rd.jO hc)]
 obtain⟨s1,e1⟩:=Rd.bn h hk.2;have h1:=s1.inv h;have s2:Rd.St r.inc ((nI r).1.ap (⟨#[41]⟩:ByteArray)):=by
  have a1:Rd.St r.inc (oF r):=by unfold oF;rw[hn];exact Rd.aM h1 _
  have a2:Rd.St r.inc (nI r).1:=a1.trans (CY _ _ _ _ (a1.inv h1));exact a2.trans (Rd.aM (a2.inv h1) _)
 have hp:=s2.dM;have s3:=Rd.cS (s1.trans s2) jB 21 r.cz 0 r.name.2 (nI r).2;refine⟨s3,?_,?_⟩
 ·show(((nI r).1.ap (⟨#[41]⟩:ByteArray)).node _).dM+2<=_;rw[Rd.mc];omega
 ·refine s3.ua h hk.1 ?_;have:=s2.i;exact this
theorem zq(h:r.Inv):Rd.St r (lr r).1:=by
 unfold lr;split
 ·rename_i hs;obtain⟨s1,e1⟩:=Rd.bn h (Rd.aU hs).2;exact Rd.cS s1 jB _ _ _ _ _
 split
 ·rename_i hs;obtain⟨s1,e1⟩:=Rd.bn h (Rd.aU hs).2;have h1:=s1.inv h;have s2:=Rd.aM h1 (⟨#[40]⟩:ByteArray);have s3:=jM (s2.inv h1);have s23:=s2.trans s3;have s4:=s23.trans (Rd.aM (s23.inv h1) (⟨#[41]⟩:ByteArray));exact Rd.cS (s1.trans s4) (by have:=s4.dM;omega) _ _ _ _ _
 split
 ·rename_i hc;exact(Bp h hc).1
 ·exact jM h
theorem AK(h:r.Inv)(hs:r.is (⟨#[91]⟩:ByteArray)=true):Rd.St r.down (oE r).1/\Rd.St r ((oE r).1.ap (⟨#[93]⟩:ByteArray)).up:=by have he:=(Rd.aU hs).1;have h1:=(Rd.bK h he).1;have s1:=Rd.aM h1 (⟨#[91]⟩:ByteArray);have s2:=s1.trans (jM (s1.inv h1));exact⟨s2,Rd.fq h he (s2.trans (Rd.aM (s2.inv h1) _))⟩
theorem xU(h:r.Inv)(hs:r.is (⟨#[91]⟩:ByteArray)=true):Rd.St r (((oE r).1.ap (⟨#[93]⟩:ByteArray)).up.ap (⟨#[61]⟩:ByteArray))/\Rd.St r (uP r).1:=by have s1:=(AK h hs).2;have s2:=s1.trans (Rd.aM (s1.inv h) (⟨#[61]⟩:ByteArray));exact⟨s2,s2.trans (jM (s2.inv h))⟩
theorem KJ(h:r.Inv)(he:r.e=0)(ln:Int):Rd.St r (pP r ln).1/\(pP r ln).1.rem+1<=r.rem:=by
 unfold pP;have s0:=Rd.df h;have h0:=s0.inv h;obtain⟨n1,n2⟩:=Rd.qA h he
 -- a name, and what is behind it
 have fin:∀(q:Rd) k L,Rd.St r.name.1 q->Rd.St r (q.put k ln 0 r.name.2 L).1/\(q.put k ln 0 r.name.2 L).1.rem+1<=r.rem:=fun q k L s=>by refine⟨Rd.cS (s0.trans s) (by have:=s.dM;omega) _ _ _ _ _,?_⟩;have:=s.rem;show q.rem+1<=_;omega
 split
 ·rename_i hc;obtain⟨s1,p1,r1⟩:=Bp h hc;have s2:=Rd.aM (s1.inv h) (⟨#[59]⟩:ByteArray);refine⟨Rd.cS (s1.trans s2) (by have:=s2.dM;omega) _ _ _ _ _,?_⟩;have:=s2.rem;show((mv r).1.ap (⟨#[59]⟩:ByteArray)).rem+1<=_;omega
 split
 ·rename_i hs;have s1:=(xU h0 hs).2;exact fin _ _ _ (s1.trans (Rd.aM (s1.inv h0) _))
 ·have s1:=Rd.aM h0 (⟨#[61]⟩:ByteArray);have s2:=s1.trans (zq (s1.inv h0));exact fin _ _ _ (s2.trans (Rd.aM (s2.inv h0) _))
theorem Rd.gC{w:ByteArray}(h:r.word=w)(h0:w≠⟨#[]⟩):r.kind 4=true:=by
 unfold Rd.word at h;split at h
 ·assumption
 ·exact absurd h.symm h0
theorem rL:∀n,(∀r:Rd,r.Inv->Rd.St r (fU n r).1)/\(∀(r:Rd) L,r.Inv->Rd.St r (mn n r L).1)/\(∀r:Rd,r.Inv->r.e=0->0<n->Rd.St r (nC n r).1/\(nC n r).1.rem+1<=r.rem)
 |0=>⟨fun r h=>by unfold fU;exact .refl h,fun r L h=>by unfold mn;exact .refl h,fun r h he hn=>by omega⟩
 |n+1=>by
  obtain⟨ib,is,it⟩:=rL n;refine⟨fun r h=>?_,fun r L h=>?_,fun r h he _=>?_⟩
  ·unfold fU;split
   ·rename_i hs;have he:=(Rd.aU hs).1;have h1:=(Rd.bK h he).1;have s1:=Rd.aM h1 (⟨#[123]⟩:ByteArray);have s2:=is _ [] (s1.inv h1);have s12:=s1.trans s2;have s3:=Rd.aM (s12.inv h1) (⟨#[125]⟩:ByteArray);have hp:=(Rd.gy h hs).2;refine Rd.cS (Rd.fq h he (s12.trans s3)) ?_ _ _ _ _ _;have:=s2.dM;have:=s3.dM;show((mn n (r.down.ap (⟨#[123]⟩:ByteArray)) []).1.ap (⟨#[125]⟩:ByteArray)).dM+1<=_;omega
   ·exact Rd.fN h 20 jC
  ·unfold mn;split
   ·rename_i hc;cases n with
    |zero=>unfold mn nC;exact .refl h
    |succ n=> have s1:=(it r h hc.1 jB).1;exact s1.trans (is _ _ (s1.inv h))
   ·exact .refl h
  ·-- a word, and what is behind it
   have fin:∀(w:ByteArray) (q:Rd) k ln nm L,w≠⟨#[]⟩->r.word=w->(r.inc.Inv->Rd.St r.inc q)->Rd.St r (q.put k ln 0 nm L).1/\(q.put k ln 0 nm L).1.rem+1<=r.rem:=fun w q k ln nm L h0 hw s=>by have hk:=Rd.dJ (Rd.gC hw h0) jC;obtain⟨s1,e1⟩:=Rd.bn h hk.2;have s2:=s (s1.inv h);refine⟨Rd.cS (s1.trans s2) (by have:=s2.dM;omega) _ _ _ _ _,?_⟩;have:=s2.rem;have:=Rd.cX h hk;show q.rem+1<=_;omega
   unfold nC;split
   ·rename_i hw;refine fin _ _ _ _ _ _ jC hw fun h1=>?_
    have s1:=Rd.df h1;have s2:=s1.trans (Rd.aM (s1.inv h1) (⟨#[61]⟩:ByteArray));have s3:=s2.trans (zq (s2.inv h1));exact s3.trans (Rd.aM (s3.inv h1) _)
   split
   ·rename_i hw;refine fin _ _ _ _ _ _ jC hw fun h1=>?_
    have s1:=jM h1;exact s1.trans (Rd.aM (s1.inv h1) _)
   split
   ·rename_i hw;refine fin _ _ _ _ _ _ jC hw fun h1=>?_
    have s1:=jM h1;exact s1.trans (ib _ (s1.inv h1))
   split
   ·rename_i hw;split
    ·rename_i hs;refine fin _ _ _ _ _ _ jC hw fun h1=>?_
     have s1:=jM h1;have s2:=s1.trans (ib _ (s1.inv h1));have h2:=s2.inv h1;have s3:=(Rd.bn h2 (Rd.aU hs).2).1;exact(s2.trans s3).trans (ib _ (s3.inv h2))
    ·refine fin _ _ _ _ _ _ jC hw fun h1=>?_
     have s1:=jM h1;exact s1.trans (ib _ (s1.inv h1))
   split
   ·rename_i hw;split
    ·exact fin _ _ _ _ _ _ jC hw fun h1=>Rd.aM h1 _
    ·refine fin _ _ _ _ _ _ jC hw fun h1=>?_
     have s1:=jM h1;exact s1.trans (Rd.aM (s1.inv h1) _)
   ·exact KJ h he _
theorem Bt(h:r.Inv):Rd.St r (ov r).1:=(rL _).1 r h
theorem QB(h:rz r.word≠0):r.e=0/\r.tok.kind≠0:=by refine Rd.dJ (k:=4) (Rd.gC (r:=r) rfl fun e=>?_) jC;rw[e]at h;exact h jC
theorem Ge(h:r.Inv):Rd.St r (iP r).1:=by
 unfold iP;split
 ·exact Rd.fN h 20 jC
 ·rename_i ht;exact(Rd.bn h (QB ht).2).1
theorem Gh(h:r.Inv):Rd.St r (pu r):=(Rd.df h).trans (Ge ((Rd.df h).inv h))
theorem GL:∀(n:Nat) (b:Bool) (r:Rd) (L:List bE),r.Inv->Rd.St r (mB n b r L).1
 |0,_,r,L,h=>by unfold mB;exact .refl h
 |n+1,false,r,L,h=>by unfold mB;exact .refl h
 |n+1,true,r,L,h=>by
  have s1:=Gh h;have h1:=s1.inv h;unfold mB;split
  ·rename_i hs;have s2:=(Rd.bn h1 (Rd.aU hs).2).1;exact(s1.trans s2).trans (GL n _ _ _ (s2.inv h1))
  ·exact s1
theorem qa(h:r.Inv):Rd.St r (r.ap (⟨#[102,110]⟩:ByteArray))/\Rd.St r (r.ap (⟨#[102,110]⟩:ByteArray)).name.1/\Rd.St r (mK r)/\Rd.St (r.ap (⟨#[102,110]⟩:ByteArray)) (mK r):=by have s1:=Rd.aM h (⟨#[102,110]⟩:ByteArray);have h1:=s1.inv h;have s2:=Rd.df h1;have s3:=s2.trans (Rd.aM (s2.inv h1) (⟨#[40]⟩:ByteArray));exact⟨s1,s1.trans s2,s1.trans s3,s3⟩
theorem zT(h:r.Inv):Rd.St (r.ap (⟨#[102,110]⟩:ByteArray)) (se r).1:=(qa h).2.2.2.trans (GL _ _ _ _ ((qa h).2.2.1.inv h))
theorem zC(h:r.Inv):Rd.St (r.ap (⟨#[102,110]⟩:ByteArray)) (lC r):=(zT h).trans (Rd.aM ((zT h).inv ((qa h).1.inv h)) _)
theorem zy(h:r.Inv):Rd.St (r.ap (⟨#[102,110]⟩:ByteArray)) (l5 r).1:=by
 unfold l5;split
 ·exact zC h
 ·exact(zC h).trans (Ge ((zC h).inv ((qa h).1.inv h)))
theorem Hb(h:r.Inv):Rd.St r (mw r).1/\(r.e=0->(mw r).1.rem+1<=r.rem):=by have h1:=(qa h).1.inv h;have s:=(zy h).trans (Bt ((zy h).inv h1));refine⟨(qa h).1.trans s,fun he=>?_⟩;have:=(Rd.nw h he (⟨#[102,110]⟩:ByteArray)).1;have:(ov (l5 r).1).1.rem<=_:=s.rem;show(ov (l5 r).1).1.rem+1<=_;omega
variable{s:ByteArray}
theorem MF{a e:Nat}(he:e<=s.size){j:Nat}(hj:a+j<e):eL (s.extract a e) (j:Nat)=eL s ((a+j:Nat):Int):=by unfold eL;have h1:(s.extract a e).data=s.data.extract a e:=jE;rw[h1];simp only[Int.toNat_natCast];have hs:e<=s.data.size:=he;rw[Array.getElem?_extract];rw[jP]
theorem La{a:Nat}(ha:a<s.size)(h:(gS s a).2.2=0):(gS s a).1.kind≠0/\((gS s a).1.kind=1->qu (gS s a).1.text):=by
 unfold gS at h ⊢;split at h<;>rename_i h1
 ·rw[if_pos h1];split at h<;>rename_i h2
  ·rw[if_pos h2];refine⟨fun e=>(by cases e),fun _=>?_⟩;have hb:=(uV (p:=jY) (s:=s) (i:=a) jB).2;have hp:=wa ha h1;have hsz:(s.extract a (iE jY s a)).size=iE jY s a-a:=by rw[ByteArray.size_extract];omega
   refine⟨by show 0<(s.extract a (iE jY s a)).size;omega,h2,fun j hj=>?_⟩;have hj:j<(s.extract a (iE jY s a)).size:=hj;show jY (eL (s.extract a (iE jY s a)) j)=true;rw[MF hb jB];exact EK (n:=s.size+1) (i:=a) jB (by show _<iE jY s a;omega)
  ·cases h
 ·rw[if_neg h1];split at h<;>rename_i h2
  ·rw[if_pos h2];split at h<;>rename_i h3
   ·rw[if_pos h3];exact⟨fun e=>(by cases e),fun e=>(by cases e)⟩
   ·rw[if_neg h3];split at h<;>rename_i h4
    ·cases h
    ·rw[if_neg h4];exact⟨fun e=>(by cases e),fun e=>(by cases e)⟩
  ·rw[if_neg h2];split at h<;>rename_i h3
   ·rw[if_pos h3];exact⟨fun e=>(by cases e),fun e=>(by cases e)⟩
   ·rw[if_neg h3];split at h<;>rename_i h4
    ·cases h
    ·rw[if_neg h4];exact⟨fun e=>(by cases e),fun e=>(by cases e)⟩
def zH(t:ce):Prop:=t.kind≠0/\(t.kind=1->qu t.text)
theorem C1(s:ByteArray):∀(n i:Nat) (out:List ce),s.size<n+i->i<=s.size->(lp s n i out).2.2=0->out.length<=i->(∀t∈out,zH t)->∃ts,(lp s n i out).1=ts++[⟨0,⟨#[]⟩,s.size⟩]/\ts.length<=s.size/\∀t∈ts,zH t
 |0,i,out,h1,h2,_,_,_=>by omega
 |n+1,i,out,h1,h2,he,hl,ho=>by
  unfold lp at he ⊢;split at he<;>rename_i hi
  ·rw[if_pos hi];split at he<;>rename_i h3
   ·rw[if_pos h3];obtain⟨e,h4,h5,h6⟩:=yX hi h3;rw[h4,Int.toNat_natCast]at he ⊢;have:=vk (s:=s) (i:=e) h6;refine C1 s n _ _ jB this.2 he (by rw[List.length_append];simp;omega) fun t ht=>?_
    rcases List.mem_append.1 ht with ht|ht
    ·exact ho t ht
    ·rw[List.mem_singleton.1 ht];exact La hi h3
   ·exact(h3 he).elim
  ·rw[if_neg hi];exact⟨out,rfl,jB,ho⟩
theorem Mc(he:(kF s).2.2=0):s.size<=600/\∃ts,(kF s).1=ts++[⟨0,⟨#[]⟩,s.size⟩]/\ts.length<=s.size/\∀t∈ts,zH t:=by
 unfold kF at he ⊢;split at he<;>rename_i h
 ·cases he
 ·rw[if_neg h];have h0:=vk (s:=s) (i:=0) (Nat.zero_le _);exact⟨jB,C1 s (s.size+1) _ _ jB h0.2 he jE fun t ht=>by simp at ht⟩
theorem Jn{α:Type}[Inhabited α]{l m:List α}{k:Nat}(h:k<l.length):nth (l++m) k=nth l k:=by simp only[nth,List.getD_eq_getElem?_getD,List.getElem?_append_left h]
theorem dT{α:Type}[Inhabited α]{l:List α}{k:Nat}(h:k<l.length):nth l k∈l:=by rw[dN h];exact List.getElem_mem h
theorem G5(he:(kF s).2.2=0):(nY s).Inv:=by
 obtain⟨h0,ts,h1,h2,h3⟩:=Mc he;have hl:(nY s).l=ts++[⟨0,⟨#[]⟩,s.size⟩]:=h1;have hn:(nY s).l.length=ts.length+1:=by rw[hl];simp
 have hlast:nth (ts++[⟨0,⟨#[]⟩,s.size⟩]:List ce) ts.length=⟨0,⟨#[]⟩,s.size⟩:=by simp[nth]
 refine⟨by show s.size<=1000;omega,Int.le_refl _,by show(0:Int)<_;omega,jB,fun k hk hk1=>?_,fun k hk hk1=>?_,Int.le_refl _,by show(0:Int)<=17;decide,fun _=>by show(0:Int)<=16;decide,?_⟩
 ·rw[hl]at hk1 ⊢;by_cases e:k<ts.length
  ·rw[Jn e]at hk1 ⊢;exact(h3 _ (dT e)).2 hk1
  ·have:k=ts.length:=jB;subst this;rw[hlast]at hk1;cases hk1
 ·by_cases e:k<ts.length
  ·omega
  ·have:k=ts.length:=jB;subst this;rw[hl,hlast]at hk1;exact(hk1 rfl).elim
 ·show((0:Nat):Int)+3*((nY s).l.length-0)+1<=8000;omega
end Go.Gd

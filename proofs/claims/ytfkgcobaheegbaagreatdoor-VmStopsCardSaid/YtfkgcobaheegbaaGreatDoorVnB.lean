/- Lemmas. No conditions. -/
import Derived.Test.YtfkgcobaheegbaaGreatDoorVmX
import Derived.Test.YtfkgcobaheegbaaGreatDoorWtU
set_option linter.all false
set_option maxHeartbeats 4000000
namespace Go.Gd
open Go
def lb(p:ab)(n:Nat)(k:Nat)(b:Int):List au:=lays (gN p n) k (dD p b) []
def cH(p:ab)(n:Nat)(k:Nat)(b:Int)(i:Nat):Nat:=mT (gN p n) k (dD p b) i
def wZ(p:ab)(n:Nat)(x:bf)(k:Nat)(b:Int)(kb:Nat):Prop:=
 ∃i:Nat,i<(dD p x.block).length/\
  (((ai p (nth (dD p x.block) i)).kind=16/\x.at_=(i:Int)/\b=nth (ai p (nth (dD p x.block) i)).l 1/\
    kb=cH p (n+1) k x.block i+1+(aR p n (nth (ai p (nth (dD p x.block) i)).l 0) ((cH p (n+1) k x.block i+1:Nat):Int)).length+1)\/
     ((ai p (nth (dD p x.block) i)).kind=15/\x.at_=(i:Int)+1/\b=nth (ai p (nth (dD p x.block) i)).l 1/\
    kb=cH p (n+1) k x.block i+1+(aR p n (nth (ai p (nth (dD p x.block) i)).l 0) ((cH p (n+1) k x.block i+1:Nat):Int)).length+1)\/
     ((ai p (nth (dD p x.block) i)).kind=15/\x.at_=(i:Int)+1/\(ai p (nth (dD p x.block) i)).l.length=3/\b=nth (ai p (nth (dD p x.block) i)).l 2/\
    ∃k1,k1=cH p (n+1) k x.block i+1+(aR p n (nth (ai p (nth (dD p x.block) i)).l 0) ((cH p (n+1) k x.block i+1:Nat):Int)).length+1/\
     kb=k1+(lb p n k1 (nth (ai p (nth (dD p x.block) i)).l 1)).length+1))
inductive cL(p:ab)(C:aE)(fn:Int):List bf->Nat->Nat->Prop
 |base (x:bf) (k:Nat) (hb:x.block=(nth p.aa.ao fn.toNat).body) (hk:nth C.entry fn.toNat=(k:Int)):cL p C fn [x] (lB p) k
 |deep (P:List bf) (x y:bf) (n k kb:Nat) (h:cL p C fn (P++[x]) (n+1) k) (hk:wZ p n x k y.block kb):cL p C fn (P++[x]++[y]) n kb
structure di(p:ab)(C:aE):Prop where
 len:C.entry.length=p.aa.ao.length
 at_:∀j,j<p.aa.ao.length->∃k:Nat,nth C.entry j=(k:Int)/\bJ C.ins k (lb p (lB p) k (nth p.aa.ao j).body++[iI 22 (nth p.aa.ao j).ret])
 qG:C.ins.length<=1000000
def I1(p:ab)(C:aE)(fn:Int)(e:Nat):Prop:=∃k:Nat,nth C.entry fn.toNat=(k:Int)/\e=k+(lb p (lB p) k (nth p.aa.ao fn.toNat).body).length
structure lF(p:ab)(C:aE)(f:aI)(c:MC):Prop where
 fn:c.fn=f.fn
 slots:c.slots=f.slots
 stack:c.stack=[]
 pos:f.path≠[]->∃n k,cL p C f.fn f.path n k/\c.at_=(cH p n k f.pl.block f.pl.at_.toNat:Int)
 Aj:f.path=[]->∃e,I1 p C f.fn e/\c.at_=(e:Int)
structure qE(p:ab)(C:aE)(f:aI)(c:MC):Prop where
 fn:c.fn=f.fn
 slots:c.slots=f.slots
 stack:c.stack=[]
 pos:∃n k,cL p C f.fn f.path n k/\c.mark=(cH p n k f.pl.block f.pl.at_.toNat:Int)/\c.at_+1=(cH p n k f.pl.block (f.pl.at_.toNat+1):Int)/\0<=c.at_/\c.at_<C.ins.length
 ins:nth C.ins c.at_.toNat=if(ai p (ci p f)).kind=13 then iI 23 0 else iI 6 (nth p.slots (ci p f).toNat)
structure iL(p:ab)(C:aE)(R:RS)(m:MV):Prop where
 len:m.calls.length=R.nf
 af:1<=R.nf->lF p C R.ah m.af
 low:∀k,k+1<R.nf->qE p C (nth R.aK k) (nth m.calls k)
 heap:m.heap=R.heap
 in_:m.in_=R.in_
 ax:m.ax=R.ax
 status:m.status=R.status
theorem zW{p:ab}{C:aE}{fn:Int}{P:List bf}{n k:Nat}(h:cL p C fn P n k):∀(Q:List bf) (x x':bf),P=Q++[x]->x'.block=x.block->cL p C fn (Q++[x']) n k:=by
 intro Q x x' e hb;cases h with
 |base y k h1 h2=>
  obtain⟨rfl,e2⟩:Q=[]/\y=x:=by
   cases Q with
   |nil=>exact⟨rfl,by simpa using e⟩
   |cons q Q=>simp at e
  subst e2;exact .base x' k (hb.trans h1) h2
 |deep Q' y z n k0 _ h1 h2=>
  have e1:Q'++[y]=Q/\z=x:=by have:=List.append_inj' e rfl;exact⟨this.1,by simpa using this.2⟩
  obtain⟨rfl,rfl⟩:=e1;exact .deep Q' y x' n k0 k h1 (by rw[hb];exact h2)
end Go.Gd
namespace Go.Proofs.YtfkgcobaheegbaaGreatDoor
open Go Go.Gd
variable{p:ab}{n:Nat}{a:Int}
theorem xQ{k:Nat}(hk:(ai p a).kind=15\/(ai p a).kind=16):gN p (n+1) a k=iI 1 a::px p n (fun b f=>lays (gN p n) f (ai p b).l []) a (k+1):=by
 conv=>lhs;unfold gN
 simp only;rw[jN,jN,jN,jN,jN]
variable{bl:Int->Int->List au}{k:Int}
theorem BQ(hk:(ai p a).kind=16):px p n bl a k=aR p n (nth (ai p a).l 0) k++[iI 17 (k+(aR p n (nth (ai p a).l 0) k).length+1+((bl (nth (ai p a).l 1) (k+(aR p n (nth (ai p a).l 0) k).length+1)).length+1))]++(bl (nth (ai p a).l 1) (k+(aR p n (nth (ai p a).l 0) k).length+1)++[iI 16 (k-1)]):=by unfold px;simp only;rw[if_pos hk]
theorem xZ(hk:(ai p a).kind=15)(hl:(ai p a).l.length=3):px p n bl a k=aR p n (nth (ai p a).l 0) k++[iI 17 (k+(aR p n (nth (ai p a).l 0) k).length+1+((bl (nth (ai p a).l 1) (k+(aR p n (nth (ai p a).l 0) k).length+1)).length+1))]++(bl (nth (ai p a).l 1) (k+(aR p n (nth (ai p a).l 0) k).length+1)++[iI 16 (k+(aR p n (nth (ai p a).l 0) k).length+1+(bl (nth (ai p a).l 1) (k+(aR p n (nth (ai p a).l 0) k).length+1)).length+1+(bl (nth (ai p a).l 2) (k+(aR p n (nth (ai p a).l 0) k).length+1+(bl (nth (ai p a).l 1) (k+(aR p n (nth (ai p a).l 0) k).length+1)).length+1)).length)])++bl (nth (ai p a).l 2) (k+(aR p n (nth (ai p a).l 0) k).length+1+(bl (nth (ai p a).l 1) (k+(aR p n (nth (ai p a).l 0) k).length+1)).length+1):=by unfold px;simp only;rw[jN,if_pos hl]
theorem CW(hk:(ai p a).kind=15)(hl:(ai p a).l.length≠3):px p n bl a k=aR p n (nth (ai p a).l 0) k++[iI 17 (k+(aR p n (nth (ai p a).l 0) k).length+1+(bl (nth (ai p a).l 1) (k+(aR p n (nth (ai p a).l 0) k).length+1)).length)]++bl (nth (ai p a).l 1) (k+(aR p n (nth (ai p a).l 0) k).length+1):=by unfold px;simp only;rw[jN,if_neg hl]
variable{b:Int}
theorem yZ(hs:dx p)(ha:a.toNat<p.aa.nodes.length)(hb:b∈(ai p a).l):0<=b/\b.toNat<a.toNat:=(hs.ok.aa.shape a.toNat ha).2.1 b hb
variable{C:aE}{k:Nat}
theorem Hx(hs:dx p){x:bf}{kb:Nat}(hx:x.block.toNat<p.aa.nodes.length)(hxk:bt p.aa.nodes x.block=18)(hlt:x.block.toNat<n+1)(hl:bJ C.ins k (lb p (n+1) k x.block))(hk:wZ p n x k b kb) :
  bJ C.ins kb (lb p n kb b)/\b.toNat<n/\b.toNat<p.aa.nodes.length/\bt p.aa.nodes b=18/\0<=b/\
  (kb+(lb p n kb b).length=cH p (n+1) k x.block x.at_.toNat\/(kb+(lb p n kb b).length<C.ins.length/\nth C.ins (kb+(lb p n kb b).length)=iI 16 (cH p (n+1) k x.block x.at_.toNat:Int))):=by
 obtain⟨i,hi,hk⟩:=hk;have hst:=dT hi;obtain⟨s0,s1⟩:=yZ hs hx (b:=nth (dD p x.block) i) hst;have hsl:(nth (dD p x.block) i).toNat<p.aa.nodes.length:=jB;have hcode:=y8 hl hi;have hsucc:=Ix (gN p (n+1)) k (dD p x.block) i hi;have sh:=(hs.ok.aa.shape _ hsl).1;unfold cH at hk ⊢;generalize hks:mT (gN p (n+1)) k (dD p x.block) i=ks at*;generalize hstm:nth (dD p x.block) i=st at*;have hbl:∀(u:Int) (v:Nat),lays (gN p n) ((v:Nat):Int) (ai p u).l []=lb p n v u:=fun u v=>rfl
 rcases hk with⟨k16,ha,hb,hkb⟩|hk
 ·obtain⟨w1,w2,hlw,hw1,hw2⟩:=sh.dS k16;have hlw:(ai p st).l=[w1,w2]:=hlw;have e1:nth (ai p st).l 1=w2:=by rw[hlw];rfl
  rw[e1]at hb;subst hb;obtain⟨b0,b1⟩:=yZ hs hsl (b:=b) (by rw[hlw];simp);rw[xQ (.inr k16),BQ k16,e1]at hcode;have hc2:=hcode.head.2.2;rw[show((ks:Int)+1)=((ks+1:Nat):Int) by push_cast;rfl]at hc2;generalize aR p n (nth (ai p st).l 0) ((ks+1:Nat):Int)=X at*;have ekb:(((ks+1:Nat):Int)+(X.length:Int)+1)=((kb:Nat):Int):=jB;rw[ekb,hbl]at hc2;have h3:=hc2.app.2;rw[List.length_append,List.length_singleton,show ks+1+(X.length+1)=kb from jB]at h3;refine⟨h3.last.1,jB,jB,hw2,b0,.inr ⟨h3.last.2.1,?_⟩⟩;rw[h3.last.2.2,ha,Int.toNat_natCast,hks];congr 1;omega
 rcases hk with⟨k15,ha,hb,hkb⟩|⟨k15,ha,hl3,hb,k1,hk1,hkb⟩
 ·obtain⟨w1,w2,hw1,hw2,hlw⟩:=sh.kz k15;have e1:nth (ai p st).l 1=w2:=by
   rcases hlw with hlw|⟨d,hlw,_⟩<;>(have hlw:(ai p st).l=_:=hlw;rw[hlw];rfl)
  rw[e1]at hb;subst hb;obtain⟨b0,b1⟩:=yZ hs hsl (b:=b) (by rcases hlw with hlw|⟨d,hlw,_⟩<;>(have hlw:(ai p st).l=_:=hlw;rw[hlw];simp));have hat:x.at_.toNat=i+1:=jB;by_cases hl3:(ai p st).l.length=3
  ·rw[xQ (.inl k15),xZ k15 hl3,e1]at hcode hsucc;have hc2:=hcode.head.2.2;rw[show((ks:Int)+1)=((ks+1:Nat):Int) by push_cast;rfl]at hc2 hsucc;generalize aR p n (nth (ai p st).l 0) ((ks+1:Nat):Int)=X at*;have ekb:(((ks+1:Nat):Int)+(X.length:Int)+1)=((kb:Nat):Int):=jB;rw[ekb,hbl]at hc2 hsucc;have h3:=hc2.app.1.app.2;rw[List.length_append,List.length_singleton,show ks+1+(X.length+1)=kb from jB]at h3;refine⟨h3.last.1,jB,jB,hw2,b0,.inr ⟨h3.last.2.1,?_⟩⟩;rw[h3.last.2.2,hat,hsucc];simp only[List.length_cons,List.length_append,List.length_nil];congr 1;push_cast;omega
  ·rw[xQ (.inl k15),CW k15 hl3,e1]at hcode hsucc;have hc2:=hcode.head.2.2;rw[show((ks:Int)+1)=((ks+1:Nat):Int) by push_cast;rfl]at hc2 hsucc;generalize aR p n (nth (ai p st).l 0) ((ks+1:Nat):Int)=X at*;have ekb:(((ks+1:Nat):Int)+(X.length:Int)+1)=((kb:Nat):Int):=jB;rw[ekb,hbl]at hc2 hsucc;have h3:=hc2.app.2;rw[List.length_append,List.length_singleton,show ks+1+(X.length+1)=kb from jB]at h3;refine⟨h3,jB,jB,hw2,b0,.inl ?_⟩;rw[hat,hsucc];simp only[List.length_cons,List.length_append,List.length_nil];omega
 ·obtain⟨w1,w2,hw1,hw2,hlw⟩:=sh.kz k15;rcases hlw with hlw|⟨d,hlw,hd⟩
  ·have hlw:(ai p st).l=_:=hlw;rw[hlw]at hl3;cases hl3
  have hlw:(ai p st).l=[w1,w2,d]:=hlw;have e2:nth (ai p st).l 2=d:=by rw[hlw];rfl
  rw[e2]at hb;subst hb;obtain⟨b0,b1⟩:=yZ hs hsl (b:=b) (by rw[hlw];simp);have hat:x.at_.toNat=i+1:=jB;rw[xQ (.inl k15),xZ k15 hl3,e2]at hcode hsucc;have hc2:=hcode.head.2.2;rw[show((ks:Int)+1)=((ks+1:Nat):Int) by push_cast;rfl]at hc2 hsucc;generalize aR p n (nth (ai p st).l 0) ((ks+1:Nat):Int)=X at*;have ek1:(((ks+1:Nat):Int)+(X.length:Int)+1)=((k1:Nat):Int):=jB;rw[ek1,hbl (nth (ai p st).l 1) k1]at hc2 hsucc;have ekb:(((k1:Nat):Int)+((lb p n k1 (nth (ai p st).l 1)).length:Int)+1)=((kb:Nat):Int):=jB;rw[ekb,hbl]at hc2 hsucc;have h3:=hc2.app.2;rw[show ks+1+(X++[iI 17 (((k1:Nat):Int)+(((lb p n k1 (nth (ai p st).l 1)).length:Int)+1))]++(lb p n k1 (nth (ai p st).l 1)++[iI 16 (((kb:Nat):Int)+((lb p n kb b).length:Int))])).length=kb by simp only[List.length_append,List.length_singleton];omega]at h3;refine⟨h3,jB,jB,hd,b0,.inl ?_⟩;rw[hat,hsucc];simp only[List.length_cons,List.length_append,List.length_nil];omega
theorem zu(hs:dx p)(hC:di p C){fn:Int}(f0:0<=fn)(f1:fn<p.aa.ao.length){P:List bf}(h:cL p C fn P n k):∀(Q:List bf) (x:bf),P=Q++[x]->bJ C.ins k (lb p n k x.block)/\x.block.toNat<n/\x.block.toNat<p.aa.nodes.length/\bt p.aa.nodes x.block=18:=by
 induction h with
 |base y k hb hk=>
  intro Q x e;obtain⟨rfl,rfl⟩:Q=[]/\y=x:=by
   cases Q with
   |nil=>exact⟨rfl,by simpa using e⟩
   |cons q Q=>simp at e
  have hj:fn.toNat<p.aa.ao.length:=jB;have hbN:=oG hs.ok.aa hj;obtain⟨k',e1,e2⟩:=hC.at_ fn.toNat hj;have:k'=k:=by rw[hk]at e1;omega
  subst this;rw[hb];exact⟨e2.app.1,by have:=hbN.1;have:=hbN.2;show _<p.aa.nodes.length;omega,by have:=hbN.1;have:=hbN.2;omega,hs.ok.aa.body _ (dT hj)⟩
 |deep P x y n k kb h hk ih=>
  intro Q z e;obtain⟨rfl,rfl⟩:P++[x]=Q/\y=z:=by have:=List.append_inj' e rfl;exact⟨this.1,by simpa using this.2⟩
  obtain⟨i1,i2,i3,i4⟩:=ih P x rfl;obtain⟨k1,k2,k3,k4,_⟩:=Hx hs i3 i4 i2 i1 hk;exact⟨k1,k2,k3,k4⟩
def fu(m m':MV):Prop:=m'.aZ=m.aZ/\m'.time=m.time
theorem fu.refl(m:MV):fu m m:=⟨rfl,rfl⟩
theorem fu.trans{a b c:MV}(h:fu a b)(k:fu b c):fu a c:=⟨k.1.trans h.1,k.2.trans h.2⟩
variable{inp:List Int}{f:aI}
theorem QF(hs:dx p)(hC:di p C){M:MV}{c:MC}(h1:1<=M.calls.length)(h8:M.calls.length<=8)(hst:M.status=0)(f0:0<=f.fn)(f1:f.fn<p.aa.ao.length)(hne:f.path≠[])(hat:f.pl.at_.toNat=(dD p f.pl.block).length)(t:lF p C f c) :
  ∃c',aS p C inp (M.aQ c) (M.aQ c')/\lF p C { f with path:=f.path.take (f.path.length-1) } c':=by
 obtain⟨n,k,hS,hpos⟩:=t.pos hne;have hp:=kP hne;generalize hQ:f.path.take (f.path.length-1)=Q at*;have hend:cH p n k f.pl.block f.pl.at_.toNat=k+(lb p n k f.pl.block).length:=by unfold cH;rw[hat];exact OZ _ _ _
 rw[hend]at hpos;rw[hp]at hS;generalize hy:f.pl=y at*;have hS2:∀P n k,cL p C f.fn P n k->P=Q++[y]->c.at_=((k+(lb p n k y.block).length:Nat):Int)->∃c',aS p C inp (M.aQ c) (M.aQ c')/\lF p C { f with path:=Q } c':=fun P n k h e hpos=>by
  cases h with
  |base z k hb hk=>
   obtain⟨rfl,rfl⟩:Q=[]/\z=y:=by
    cases Q with
    |nil=>exact⟨rfl,by simpa using e⟩
    |cons q Q=>simp at e
   refine⟨c,aS.refl _,⟨t.fn,t.slots,t.stack,fun h=>(h rfl).elim,fun _=>⟨_,⟨k,hk,rfl⟩,?_⟩⟩⟩;rw[hpos,hb]
  |deep P x z n k0 _ h hk=>
   obtain⟨rfl,rfl⟩:P++[x]=Q/\z=y:=by have:=List.append_inj' e rfl;exact⟨this.1,by simpa using this.2⟩
   obtain⟨l1,l2,l3,l4⟩:=zu hs hC f0 f1 h P x rfl;obtain⟨k1,k2,k3,k4,k5,k6⟩:=Hx hs l3 l4 l2 l1 hk;have hpl:∀d:MC,d.fn=c.fn->d.slots=c.slots->d.stack=c.stack->d.at_=(cH p (n+1) k0 x.block x.at_.toNat:Int)->lF p C { f with path:=P++[x] } d:=fun d e1 e2 e3 e4=>by
    have hpx:aI.pl { f with path:=P++[x] }=x:=by unfold aI.pl;show nth (P++[x]) ((P++[x]).length-1)=x;rw[List.length_append,List.length_singleton,Nat.add_sub_cancel];exact nM _ _
    exact⟨e1.trans t.fn,e2.trans t.slots,e3.trans t.stack,fun _=>⟨n+1,k0,h,by rw[hpx];exact e4⟩,fun h=>by simp at h⟩
   rcases k6 with k6|⟨k6,k7⟩
   ·exact⟨c,aS.refl _,hpl c rfl rfl rfl (by rw[hpos,k6])⟩
   ·refine⟨{ c with at_:=(cH p (n+1) k0 x.block x.at_.toNat:Int) },?_,hpl _ rfl rfl rfl rfl⟩;refine aS.ins h1 h8 hst hpos k6 k7 (fun h=>by cases h) (cJ.pm h1 h8 hpos k6 k7 (fun h=>by rcases h with h|h|h|h|h|h|h|h|h|h|h|h<;>cases h) (fun h=>by rcases h with h|h<;>cases h) (fun h=>by rcases h with h|h|h|h<;>cases h) (fun h=>by rcases h with h|h|h<;>cases h) (fun h=>by cases h) (fun h=>by cases h) ⟨by show(1:Int)<=16;decide,by show(16:Int)<=23;decide⟩ (fun h=>by cases h) (by rw[t.stack];intro v hv;cases hv) (by rw[t.stack];simp)) ?_;rw[MV.po,MV.aV h1,MV.cV];exact aS.refl _
 exact hS2 _ _ _ hS rfl hpos
variable{m:MV}
theorem MV.nN(h:2<=m.calls.length):m.pop.af=nth m.calls (m.calls.length-1-1):=by show nth (m.calls.take (m.calls.length-1)) ((m.calls.take (m.calls.length-1)).length-1)=_;rw[List.length_take,show min (m.calls.length-1) m.calls.length=m.calls.length-1 from jB,cd _ _ _ jB]
theorem AA(hw:iW p){R:RS}(hI:cO p R)(t:ee p R)(h1:1<=R.nf)(hlen:m.calls.length=R.nf)(hlow:∀k,k+1<R.nf->qE p C (nth R.aK k) (nth m.calls k))(hh:m.heap=R.heap)(hin:m.in_=R.in_)(hou:m.ax=R.ax)(hst:m.status=0)(hR:R.status=0)(v:ak)(hv:v.s.size<=40) :
  ∃m',aS p C inp (m.ends v) m'/\iL p C (R.bL p v) m'/\fu m m'/\(m'.status=0\/(R.bL p v).status=2):=by
 have hnf:=hI.ok.nf;have h8:=hI.aK;unfold MV.ends RS.bL;by_cases h2:R.nf<=1
 ·rw[jP,if_pos h2];refine⟨_,aS.refl _,⟨?_,fun h=>?_,fun k hk=>?_,hh,hin,hou,rfl⟩,⟨rfl,rfl⟩,.inr rfl⟩
  ·show(m.calls.take (m.calls.length-1)).length=R.nf-1;simp;omega
  ·have h:1<=R.nf-1:=h;omega
  ·have hk:k+1<R.nf-1:=hk;omega
 rw[jN,if_neg h2];have hl2:=hlow (R.nf-1-1) jB;have hb:=hI.busy (R.nf-1-1) jB;have hf:=hI.fr (R.nf-1-1) jB;have ht:=t.fr (R.nf-1-1) jB;have hlk:=t.link (R.nf-1-1) jB;have hat:cu p R.pop.st=ci p (nth R.aK (R.nf-1-1)):=by
  unfold cu ci;have:R.pop.st.af=nth R.aK (R.nf-1-1):=by unfold aJ.af;show nth (R.aK.take (R.nf-1)) ((R.aK.take (R.nf-1)).length-1)=_;rw[show(R.aK.take (R.nf-1)).length=R.nf-1 by simp;omega,cd _ _ _ jB]
  rw[this]
 rw[hat];have hpt:m.pop.af=nth m.calls (R.nf-1-1):=by rw[MV.nN jB,hlen]
 have hpl:m.pop.calls.length=R.nf-1:=by show(m.calls.take (m.calls.length-1)).length=_;simp;omega
 have hpk:∀k,k<R.nf-1->nth m.pop.calls k=nth m.calls k:=fun k hk=>cd _ _ _ jB
 generalize hf':nth R.aK (R.nf-1-1)=f at*;generalize hc':nth m.calls (R.nf-1-1)=c at*;obtain⟨n,k,hS,hmk,hat1,ha0,ha1⟩:=hl2.pos;have hX:=hf.pl _ (mD hb.1);have hX0:=hX.a0;have hb2:=hb.2;have hpush:m.pop.push v=m.pop.aQ { c with stack:=[v],bo:=c.bo-1 }:=by unfold MV.push;rw[hpt];unfold MC.push;rw[hl2.stack];rfl
 rw[hpush];have hp1:1<=m.pop.calls.length:=jB;have hp8:m.pop.calls.length<=8:=jB
 -- how it stands then
 have fin:∀(g:aI) (d:MC),g.fn=f.fn->g.path=f.path->d.fn=c.fn->d.slots=g.slots->d.stack=[]->d.at_=c.at_+1->∀R':RS,R'=R.pop.aQ (R.nf-1-1) (fK g)->iL p C R' (m.pop.aQ d):=fun g d e1 e2 e3 e4 e5 e6 R' eR=>by
  subst eR;have hu:=fun k=>RS.bh (R:=R.pop) (k:=R.nf-1-1) (by show R.nf-1-1<R.aK.length;omega) (fK g) k
  have hgne:g.path≠[]:=by rw[e2];exact hb.1
  have hgpl:g.pl=f.pl:=by unfold aI.pl;rw[e2]
  have hopl:(fK g).pl=⟨f.pl.block,f.pl.at_+1⟩:=by have:(fK g).path=g.path.take (g.path.length-1)++[⟨g.pl.block,g.pl.at_+1⟩]:=oq hgne;unfold aI.pl at*;rw[this,List.length_append,List.length_singleton,Nat.add_sub_cancel,nM,hgpl]
  refine⟨by rw[MV.bB,hpl];rfl,fun _=>?_,fun k hk=>?_,hh,hin,hou,by show m.status=R.status;omega⟩
  ·have htop:RS.ah (R.pop.aQ (R.nf-1-1) (fK g))=fK g:=(hu (R.nf-1-1)).trans (if_pos rfl);rw[htop,MV.aV hp1];refine⟨e3.trans (hl2.fn.trans e1.symm),e4,e5,fun _=>⟨n,k,?_,?_⟩,fun h=>?_⟩
   ·rw[oq hgne,hgpl,e2];show cL p C g.fn _ n k;rw[e1];exact zW hS _ _ _ (kP hb.1) rfl
   ·rw[e6,hat1,hopl];show(cH p n k f.pl.block (f.pl.at_.toNat+1):Int)=(cH p n k f.pl.block (f.pl.at_+1).toNat:Int);rw[show(f.pl.at_+1).toNat=f.pl.at_.toNat+1 from jB]
   ·rw[oq hgne]at h;simp at h
  ·have hk:k+1<R.nf-1:=hk;rw[hu,jN];have:nth (m.pop.aQ d).calls k=nth m.calls k:=by
    show nth (m.pop.calls.set (m.pop.calls.length-1) d) k=_;rw[Go.Gd.bh _ _ _ _ jB,jN,hpk k jB]
   rw[this];exact hlow k jB
 obtain⟨ck,hck⟩:∃ck:Nat,c.at_=(ck:Int):=⟨c.at_.toNat,jB⟩;have hlt:ck<C.ins.length:=jB;have hins:=hl2.ins;rw[hck,Int.toNat_natCast]at hins;by_cases hk13:(ai p (ci p f)).kind=13
 ·rw[if_pos hk13]at hins;rw[if_neg (fun h=>by rcases h with h|h<;>(have h:(ai p (ci p f)).kind=_:=h;omega))];refine⟨_,aS.ins (c:={ c with stack:=[v],bo:=c.bo-1 }) hp1 hp8 hst hck hlt hins (fun h=>by cases h) (cJ.pm hp1 hp8 hck hlt hins (fun _=>jE) (fun h=>by rcases h with h|h<;>cases h) (fun h=>by rcases h with h|h|h|h<;>cases h) (fun h=>by rcases h with h|h|h<;>cases h) (fun h=>by cases h) (fun h=>by cases h) ⟨by show(1:Int)<=23;decide,by show(23:Int)<=23;decide⟩ (fun h=>by cases h) (by intro u hu;rw[List.mem_singleton.1 hu];exact hv) jE) (aS.refl _),?_,⟨rfl,rfl⟩,.inl hst⟩;rw[MV.qF,MV.cM hp1];have e:MC.cut { c with at_:=(ck:Int)+1,stack:=[v],bo:=c.bo-1 } 1={ c with at_:=(ck:Int)+1,stack:=[],bo:=c.bo-1+1 }:=rfl;rw[e];exact fin f { c with at_:=(ck:Int)+1,stack:=[],bo:=c.bo-1+1 } rfl rfl rfl hl2.slots rfl (by rw[hck]) R.pop.on (by unfold RS.on;rw[show R.pop.nf-1=R.nf-1-1 from rfl,show nth R.pop.aK (R.nf-1-1)=f from hf'])
 ·rw[if_neg hk13]at hins;have hls:kJ p (ci p f):=by
   obtain⟨c1,_⟩:=hlk;have:(ai p (ci p f)).kind=10\/(ai p (ci p f)).kind=11:=jB;exact this
  rw[if_pos hls];have hm:ci p f∈dD p f.pl.block:=dT jB;obtain⟨k0,k1,k2,k3⟩:=hX.ay hw.ok hf.f0 hf.f1 hm;have hsl:=(hw.ok.ao f.fn.toNat (by have:=hf.f0;have:=hf.f1;omega)).all (ci p f).toNat k2 (by have:=hX.hi;omega) (by unfold kJ at hls;unfold iA;omega);have hfs:=hf.sl;refine⟨_,aS.ins (c:={ c with stack:=[v],bo:=c.bo-1 }) hp1 hp8 hst hck hlt hins (fun h=>by cases h) (cJ.pm hp1 hp8 hck hlt hins (fun _=>jE) (fun h=>by rcases h with h|h<;>cases h) (fun _=>by show 0<=nth p.slots (ci p f).toNat/\nth p.slots (ci p f).toNat<c.slots.length;rw[hl2.slots];omega) (fun h=>by rcases h with h|h|h<;>cases h) (fun h=>by cases h) (fun h=>by cases h) ⟨by show(1:Int)<=6;decide,by show(6:Int)<=23;decide⟩ (fun h=>by cases h) (by intro u hu;rw[List.mem_singleton.1 hu];exact hv) jE) (aS.refl _),?_,⟨rfl,rfl⟩,.inl hst⟩;rw[MV.kZ,MV.aV hp1,MV.cV];have e:({ MC.cut { c with at_:=(ck:Int)+1,stack:=[v],bo:=c.bo-1 } 1 with slots:=c.slots.set (nth p.slots (ci p f).toNat).toNat (MC.last { c with at_:=(ck:Int)+1,stack:=[v],bo:=c.bo-1 }) }:MC)=⟨c.fn,(ck:Int)+1,c.mark,c.slots.set (nth p.slots (ci p f).toNat).toNat v,[],c.bo-1+1⟩:=rfl;rw[e];refine fin { f with slots:=f.slots.set (nth p.slots (ci p f).toNat).toNat v } ⟨c.fn,(ck:Int)+1,c.mark,c.slots.set (nth p.slots (ci p f).toNat).toNat v,[],c.bo-1+1⟩ rfl rfl rfl (by show c.slots.set _ v=f.slots.set _ v;rw[hl2.slots]) rfl (by rw[hck]) _ ?_;rw[zB (R:=R.pop) (by show R.nf-1-1<R.aK.length;omega)];show RS.aQ R.pop (R.nf-1-1) (fK { nth R.aK (R.nf-1-1)with slots:=(nth R.aK (R.nf-1-1)).slots.set _ v })=_;rw[hf']
theorem Aa{p:ab}{C:aE}{inp:List Int}(hw:iW p)(hC:di p C):∀(n:Nat) (R:RS) (m:MV),cO p R->ee p R->iL p C R m->R.left<n->(R.status=0\/R.status=2)->∃m',aS p C inp m m'/\iL p C (jL p n R) m'/\fu m m'
 |0,R,m,_,_,_,h,_=>by omega
 |n+1,R,m,hI,t,hM,hn,hR=>by
  unfold jL;split
  ·exact⟨m,aS.refl _,hM,fu.refl _⟩
  rename_i e;have hR0:R.status=0:=jB;have hg:=hI.go e;have hnf:=hI.ok.nf;have h8:=hI.aK;have hf:dr p R.ah:=hI.fr (R.nf-1) jB;have f0:=hf.f0;have f1:=hf.f1;have hlen:=hM.len;have hst:m.status=0:=hM.status.trans hR0;have hT:=hM.af hg;have hm:m.aQ m.af=m:=MV.re m jB;split
  ·rename_i e1;obtain⟨ed,⟨k,hk1,hk2⟩,hk3⟩:=hT.Aj (List.length_eq_zero_iff.1 e1);obtain⟨k',c1,c2⟩:=hC.at_ R.ah.fn.toNat jB;have:k'=k:=by rw[hk1]at c1;omega
   subst this;have hins:=c2.app.2.head;rw[<-hk2]at hins;obtain⟨a,b,_⟩:=hI.bL hg (vZ (nth p.aa.ao R.ah.fn.toNat).ret);have tT:=t.bL hw hI hg (v:=vZ (nth p.aa.ao R.ah.fn.toNat).ret) fun hz=>by have:=(hw.ok.ok.aa.fn _ (dT (l:=p.aa.ao) (k:=R.ah.fn.toNat) jB)).1.ret;exact⟨rfl,xa jB,fun _=>by show(0:Int)<=_;omega⟩
   have hk4:∀k,k+1<R.nf->nth (m.aQ { m.af with at_:=(ed:Int)+1 }).calls k=nth m.calls k:=fun k hk=>by show nth (m.calls.set (m.calls.length-1) _) k=_;rw[Go.Gd.bh _ _ _ _ jB,jN]
   obtain⟨m1,g1,M1,K1,S1⟩:=AA (C:=C) (inp:=inp) (m:=m.aQ { m.af with at_:=(ed:Int)+1 }) hw hI t hg (by rw[MV.bB];exact hlen) (fun k hk=>by rw[hk4 k hk];exact hM.low k hk) hM.heap hM.in_ hM.ax hst hR0 (vZ (nth p.aa.ao R.ah.fn.toNat).ret) (Nat.zero_le _);obtain⟨m2,g2,M2,K2⟩:=Aa hw hC n _ m1 a tT M1 jB (by
    rcases S1 with S1|S1
    ·exact .inl (M1.status.symm.trans S1)
    ·exact .inr S1)
   refine⟨m2,?_,M2,K1.trans K2⟩;have g0:aS p C inp (m.aQ m.af) m1:=aS.ins jB jB hst hk3 hins.1 hins.2.1 (fun h=>by cases h) (cJ.pm jB jB hk3 hins.1 hins.2.1 (fun h=>by rcases h with h|h|h|h|h|h|h|h|h|h|h|h<;>cases h) (fun h=>by rcases h with h|h<;>cases h) (fun h=>by rcases h with h|h|h|h<;>cases h) (fun h=>by rcases h with h|h|h<;>cases h) (fun h=>by cases h) (fun h=>by cases h) ⟨by show(1:Int)<=22;decide,by show(22:Int)<=23;decide⟩ (fun h=>by cases h) (by rw[hT.stack];intro v hv;cases hv) (by rw[hT.stack];simp)) (by rw[MV.l8];exact g1);rw[hm]at g0;exact g0.trans g2
  rename_i e1;split
  ·exact⟨m,aS.refl _,hM,fu.refl _⟩
  rename_i e2;have hne:R.ah.path≠[]:=fun h=>e1 (by rw[h];rfl)
  have hX:=hf.pl _ (mD hne);obtain⟨a,b⟩:=hI.cut hg e1;obtain⟨c',g1,T1⟩:=QF (inp:=inp) hw.ok hC (M:=m) jB jB hst f0 f1 hne (by have:=hX.a0;have:=hX.a1;omega) hT;rw[hm]at g1;have M1:iL p C R.cut (m.aQ c'):=by
   have hu:∀k,nth R.cut.aK k=if k=R.nf-1 then{ R.ah with path:=R.ah.path.take (R.ah.path.length-1) }else nth R.aK k:=fun k=>Go.Gd.bh _ _ _ _ jB
   refine⟨by rw[MV.bB];exact hlen,fun _=>?_,fun k hk=>?_,hM.heap,hM.in_,hM.ax,hM.status⟩
   ·rw[MV.aV jB];have:R.cut.ah={ R.ah with path:=R.ah.path.take (R.ah.path.length-1) }:=(hu (R.nf-1)).trans (if_pos rfl);rw[this];exact T1
   ·have hk:k+1<R.nf:=hk;rw[hu,jN];have:nth (m.aQ c').calls k=nth m.calls k:=by
     show nth (m.calls.set (m.calls.length-1) _) k=_;rw[Go.Gd.bh _ _ _ _ jB,jN]
    rw[this];exact hM.low k hk
  obtain⟨m2,g2,M2,K2⟩:=Aa hw hC n _ _ a (t.cut hnf hg e1) M1 jB hR;exact⟨m2,g1.trans g2,M2,K2⟩
theorem xp{R R':RS}{M:MV}(hM:iL p C R m)(hnf:R.nf<=R.aK.length)(h1:1<=R.nf){g:aI}{d:MC}(ht:lF p C g d)(e1:R'.aK=R.aK.set (R.nf-1) g)(e2:R'.nf=R.nf)(e3:M.calls=m.calls.set (m.calls.length-1) d)(hh:M.heap=R'.heap)(hi:M.in_=R'.in_)(ho:M.ax=R'.ax)(hs:M.status=R'.status):iL p C R' M:=by
 have hlen:=hM.len;have hu:∀k,nth R'.aK k=if k=R.nf-1 then g else nth R.aK k:=fun k=>by rw[e1];exact Go.Gd.bh _ _ _ _ jB
 have hc:∀k,nth M.calls k=if k=R.nf-1 then d else nth m.calls k:=fun k=>by rw[e3,hlen];exact Go.Gd.bh _ _ _ _ jB
 have hcl:M.calls.length=R.nf:=by rw[e3,List.length_set];exact hlen
 refine⟨by rw[hcl,e2],fun _=>?_,fun k hk=>?_,hh,hi,ho,hs⟩
 ·unfold RS.ah MV.af;rw[e2,hu,if_pos rfl,hcl,hc,if_pos rfl];exact ht
 ·rw[e2]at hk;rw[hu,jN,hc,jN];exact hM.low k hk
theorem G9{g:aI}(h:g.path≠[]):(fK g).pl=⟨g.pl.block,g.pl.at_+1⟩:=by have:(fK g).path=g.path.take (g.path.length-1)++[⟨g.pl.block,g.pl.at_+1⟩]:=oq h;unfold aI.pl at*;rw[this,List.length_append,List.length_singleton,Nat.add_sub_cancel,nM]
theorem Na(hS:cL p C f.fn f.path n k)(hne:f.path≠[]):cL p C f.fn (fK f).path n k:=by rw[oq hne];exact zW hS _ _ _ (kP hne) rfl
theorem D0{g:aI}{d:MC}(hS:cL p C f.fn f.path n k)(hne:f.path≠[])(a0:0<=f.pl.at_)(e1:g.fn=f.fn)(e2:g.path=f.path)(e3:d.fn=f.fn)(e4:d.slots=g.slots)(e5:d.stack=[])(e6:d.at_=(cH p n k f.pl.block (f.pl.at_.toNat+1):Int)):lF p C (fK g) d:=by
 have hgne:g.path≠[]:=by rw[e2];exact hne
 have hgpl:g.pl=f.pl:=by unfold aI.pl;rw[e2]
 refine⟨e3.trans e1.symm,e4,e5,fun _=>⟨n,k,?_,?_⟩,fun h=>?_⟩
 ·show cL p C g.fn (fK g).path n k;rw[oq hgne,hgpl,e2,e1];exact zW hS _ _ _ (kP hne) rfl
 ·rw[e6,G9 hgne,hgpl];show(cH p n k f.pl.block (f.pl.at_.toNat+1):Int)=(cH p n k f.pl.block (f.pl.at_+1).toNat:Int);rw[show(f.pl.at_+1).toNat=f.pl.at_.toNat+1 from jB]
 ·rw[oq hgne]at h;simp at h
theorem ID{d:MC}{kb:Nat}(hS:cL p C f.fn f.path (n+1) k)(hne:f.path≠[])(hk:wZ p n f.pl k b kb)(e3:d.fn=f.fn)(e4:d.slots=f.slots)(e5:d.stack=[])(e6:d.at_=(kb:Int)):lF p C { f with path:=f.path++[⟨b,0⟩] } d:=by
 have hpl:aI.pl { f with path:=f.path++[⟨b,0⟩] }=⟨b,0⟩:=by unfold aI.pl;show nth (f.path++[_]) ((f.path++[(⟨b,0⟩:bf)]).length-1)=_;rw[List.length_append,List.length_singleton,Nat.add_sub_cancel];exact nM _ _
 refine⟨e3,e4,e5,fun _=>⟨n,kb,?_,?_⟩,fun h=>?_⟩
 ·show cL p C f.fn (f.path++[⟨b,0⟩]) n kb;have hp:=kP hne;generalize f.path.take (f.path.length-1)=Q at hp;rw[hp]at hS ⊢;exact .deep _ _ ⟨b,0⟩ n k kb hS hk
 ·rw[hpl,e6];rfl
 ·simp at h
theorem Dm{p:ab}{C:aE}{inp:List Int}(hs:dx p){R:RS}{m:MV}(h1:1<=m.calls.length)(h8:m.calls.length<=8)(hst:m.status=0)(hh:m.heap=R.heap){j:Nat}(hj:j<p.aa.ao.length)(hsl:(R.ah.slots.length:Int)=nth p.size j){n:Nat}(c:MC)(hc:c.slots=R.ah.slots) :
  ∀(L:List Int) (acc:List ak) (k q:Nat),(∀x∈L,0<=x/\x.toNat<p.aa.nodes.length/\lH p j x/\bQ (bt p.aa.nodes x)/\x.toNat<n)->bJ C.ins k (lays (aR p n) k L [])->(∀v∈acc,v.s.size<=40)->acc.length+L.length<=10->
   ((R.args p L acc).2=0->(∃q',aS p C inp (m.aQ { c with at_:=(k:Int),stack:=acc,bo:=q }) (m.aQ { c with at_:=((k+(lays (aR p n) k L []).length:Nat):Int),stack:=(R.args p L acc).1,bo:=q' }))/\∀v∈(R.args p L acc).1,v.s.size<=40)/\((R.args p L acc).2≠0->aS p C inp (m.aQ { c with at_:=(k:Int),stack:=acc,bo:=q }) (m.fL c 3 (R.args p L acc).2))
 |[],acc,k,q,hL,hl,hz,hd=>⟨fun _=>⟨⟨q,aS.refl _⟩,hz⟩,fun h=>(h rfl).elim⟩
 |x::L,acc,k,q,hL,hl,hz,hd=>by
  obtain⟨x0,x1,x2,x3,x4⟩:=hL x jE;have hm:=hs.ok.aa.many;have e0:lays (aR p n) (k:Int) (x::L) []=aR p n x k++lays (aR p n) ((k+(aR p n x k).length:Nat):Int) L []:=by show lays (aR p n) k L ([]++aR p n x ((k:Int)+((0:Nat):Int)))=_;rw[vH,List.nil_append,show((k:Int)+((0:Nat):Int))=(k:Int) from jB,Int.natCast_add]
  rw[e0]at hl ⊢;have hsim:=AH (inp:=inp) hs h1 h8 hst hj hsl n x k { c with at_:=(k:Int),stack:=acc,bo:=q } x0 x1 x2 x3 x4 hc rfl hl.app.1 hz (by show acc.length+x.toNat<=900;simp at hd;omega);have hfu:=Bu hs.ok.aa R.ah.slots R.heap n p.aa.nodes.length x x0 jB x4 jB x3;rw[hh,hfu]at hsim;have told:=tJ hs.ok R.ah.slots R.heap p.aa.nodes.length x x0 jB jB x3;have hva:R.val p x=eN p R.ah.slots R.heap p.aa.nodes.length x:=rfl;rw[<-hva]at hsim told;have hsz:=told.size;have eA:R.args p (x::L) acc=if(R.val p x).2≠0 then(acc,(R.val p x).2)else R.args p L (acc++[(R.val p x).1]):=rfl
  rw[eA];by_cases hx:(R.val p x).2=0
  ·rw[if_neg (fun h:(R.val p x).2≠0=>h hx)];obtain⟨q1,g1⟩:=hsim.1 hx;obtain⟨i1,i2⟩:=Dm (inp:=inp) hs h1 h8 hst hh hj hsl c hc L (acc++[(R.val p x).1]) (k+(aR p n x k).length) q1 (fun y hy=>hL y (by simp[hy])) hl.app.2 (xt hz hsz) (by simp at hd ⊢;omega);rw[Int.natCast_add]at i1 i2;rw[List.length_append,<-Nat.add_assoc];refine⟨fun h=>?_,fun h=>g1.trans (i2 h)⟩;obtain⟨⟨q',g2⟩,hz2⟩:=i1 h;exact⟨⟨q',g1.trans g2⟩,hz2⟩
  ·rw[if_pos hx];exact⟨fun h=>(hx h).elim,fun _=>hsim.2 hx⟩
theorem FC(hC:di p C){j:Nat}(hj:j<p.aa.ao.length):∃k:Nat,MV.iJ C (j:Int)=(k:Int)/\nth C.entry ((j:Int)).toNat=(k:Int):=by obtain⟨k,h,_⟩:=hC.at_ j hj;exact⟨k,by unfold MV.iJ;rw[Int.toNat_natCast];exact h,by rw[Int.toNat_natCast];exact h⟩
theorem Di(hw:iW p)(hC:di p C){R:RS}(hd:bF p R)(t:ee p R)(hM:iL p C R m)(hR:R.status=0){x:Int}{kc ks j:Nat}
  (hx:x=nth (ai p (ci p R.ah)).l 0) (hst:(ai p (ci p R.ah)).kind=10\/(ai p (ci p R.ah)).kind=11\/(ai p (ci p R.ah)).kind=13) (h0:0<=x) (hl:x.toNat<p.aa.nodes.length) (hk:(ai p x).kind=21) (hin:lH p R.ah.fn.toNat x) (hn:x.toNat<n)
  (hcode:bJ C.ins kc (cC p n x kc)) {N k:Nat} (hS:cL p C R.ah.fn R.ah.path N k) (hks:ks=cH p N k R.ah.pl.block R.ah.pl.at_.toNat) (hke:kc+(cC p n x kc).length+1=cH p N k R.ah.pl.block (R.ah.pl.at_.toNat+1)) (hkl:kc+(cC p n x kc).length<C.ins.length)
  (hki:nth C.ins (kc+(cC p n x kc).length)=if(ai p (ci p R.ah)).kind=13 then iI 23 0 else iI 6 (nth p.slots (ci p R.ah).toNat)) :
  ((R.call p x).2≠0->aS p C inp (m.aQ ⟨R.ah.fn,kc,ks,R.ah.slots,[],j⟩) (m.fL ⟨R.ah.fn,kc,ks,R.ah.slots,[],j⟩ 3 (R.call p x).2))/\
  ((R.call p x).2=0->∃m1,aS p C inp (m.aQ ⟨R.ah.fn,kc,ks,R.ah.slots,[],j⟩) m1/\iL p C (R.call p x).1 m1/\fu m m1):=by
 have hs:=hw.ok;have h1:=hd.one;have h8:=hd.inv.aK;have hfull:=hd.full;have hlen:=hM.len;have hf:=hd.fr;have f0:=hf.f0;have f1:=hf.f1;have hst0:m.status=0:=hM.status.trans hR;have hcl1:1<=m.calls.length:=jB;have hcl8:m.calls.length<=8:=jB;obtain⟨cal,hc⟩:=callee hs hl hk;have hcal:Cd p x=(cal:Int):=hc.last;have hsh:=hs.ok.aa.shape x.toNat hl;have hfew:=hc.zU;have hargs:=Dm (inp:=inp) hs hcl1 hcl8 hst0 hM.heap (R:=R) (j:=R.ah.fn.toNat) jB hf.sl (n:=n) ⟨R.ah.fn,kc,ks,R.ah.slots,[],j⟩ rfl (ai p x).l [] kc j (fun y hy=>by obtain⟨y1,y2,y3,y4⟩:=hin.ay hs jB hy;exact⟨y2,y4,y1,hsh.1.call hk y hy,jB⟩) hcode.app.1 (fun v hv=>by cases hv) jF
 have hci:=hcode.app.2.head;have hcl:(cC p n x kc).length=(lays (aR p n) kc (ai p x).l []).length+1:=by unfold cC;rw[List.length_append];rfl
 rw[hcal]at hci;unfold RS.call;simp only;by_cases ha:(R.args p (ai p x).l []).2=0
 rotate_left
 ·rw[if_pos ha];exact⟨fun _=>hargs.2 ha,fun h=>(ha h).elim⟩
 rw[if_neg (fun h=>h ha)];obtain⟨⟨q,g⟩,hz⟩:=hargs.1 ha;obtain⟨a1,a2⟩:=Cx R _ [] ha;rw[List.nil_append]at a1;have hal:(R.args p (ai p x).l []).1.length=(ai p x).l.length:=by rw[a1,List.length_map]
 generalize hA:(R.args p (ai p x).l []).1=A at*;generalize hke2:kc+(lays (aR p n) kc (ai p x).l []).length=ke at*;have hfnS:=hs.ao cal hc.lt;have hsz:=hs.ok.size;have hok:(m.aQ ⟨R.ah.fn,ke,ks,R.ah.slots,A,q⟩).cJ p C:=cJ.pm hcl1 hcl8 rfl hci.1 hci.2.1 (fun h=>by rcases h with h|h|h|h|h|h|h|h|h|h|h|h<;>cases h) (fun h=>by rcases h with h|h<;>cases h) (fun h=>by rcases h with h|h|h|h<;>cases h) (fun h=>by rcases h with h|h|h<;>cases h) (fun h=>by cases h) (fun _=>by
  have p1:=hfnS.wk;have p2:=hfnS.hi;have p3:=hc.args;have p4:=hC.len;have p5:=hc.lt;refine⟨?_,?_,?_,?_,?_,?_,?_,?_,?_⟩
  ·show(0:Int)<=((ai p x).l.length:Int);omega
  ·show((ai p x).l.length:Int)<=(A.length:Int);omega
  ·show((ai p x).l.length:Int)<=3;omega
  ·show(0:Int)<=(cal:Int);omega
  ·show(cal:Int)<(C.entry.length:Int);omega
  ·show(cal:Int)<(p.size.length:Int);omega
  ·show 0<=nth p.size ((cal:Int)).toNat;rw[Int.toNat_natCast];omega
  ·show nth p.size ((cal:Int)).toNat<=24;rw[Int.toNat_natCast];omega
  ·show((ai p x).l.length:Int)<=nth p.size ((cal:Int)).toNat;rw[Int.toNat_natCast];omega) ⟨by show(1:Int)<=20;decide,by show(20:Int)<=23;decide⟩ (fun h=>by cases h) hz (by show A.length<=1000;omega)
 have hgo:∀m',aS p C inp ((m.aQ ⟨R.ah.fn,(ke:Int)+1,ks,R.ah.slots,A,q⟩).ins p C inp ⟨20,(cal:Int),((ai p x).l.length:Int),sE⟩) m'->aS p C inp (m.aQ ⟨R.ah.fn,kc,ks,R.ah.slots,[],j⟩) m':=fun m' hg=> g.trans (aS.ins (c:=⟨R.ah.fn,ke,ks,R.ah.slots,A,q⟩) hcl1 hcl8 hst0 rfl hci.1 hci.2.1 (fun h=>by cases h) hok hg)
 have hcut:(m.aQ ⟨R.ah.fn,(ke:Int)+1,ks,R.ah.slots,A,q⟩).cut ((ai p x).l.length:Int).toNat=m.aQ ⟨R.ah.fn,(ke:Int)+1,ks,R.ah.slots,[],q+(ai p x).l.length⟩:=by rw[MV.cM hcl1,Int.toNat_natCast];unfold MC.cut;show m.aQ ⟨_,_,_,_,A.take (A.length-(ai p x).l.length),_⟩=_;rw[hal,Nat.sub_self];rfl
 rw[MV.pi,hcut,MV.bB]at hgo;by_cases h88:8<=R.nf
 ·rw[if_pos h88];rw[jP]at hgo;refine⟨fun _=>hgo _ ?_,fun h=>absurd h (by show¬((3:Int)=0);decide)⟩;rw[MV.dB hcl1];exact aS.refl _
 ·rw[if_neg h88];rw[jN]at hgo;refine⟨fun h=>(h rfl).elim,fun _=>⟨_,hgo _ (aS.refl _),?_,⟨rfl,rfl⟩⟩⟩;rw[MV.aV hcl1];show iL p C (R.push (jc p (gj aX.name (ai p x).name p.aa.ao 0) A)) ((m.aQ _).cF p C (cal:Int) (A.drop (A.length-((ai p x).l.length:Int).toNat)));rw[hc.at_,Int.toNat_natCast,hal,Nat.sub_self,List.drop_zero];have hu:∀k,k<=R.nf->nth (R.push (jc p cal A)).aK k=if k=R.nf then jc p cal A else nth R.aK k:=fun k hk=>by
   show nth (R.aK++[_]) k=_;rw[xJ _ _ _ jB,hfull]
  have hcc:∀k,k<=R.nf->nth ((m.aQ ⟨R.ah.fn,(ke:Int)+1,ks,R.ah.slots,[],q+(ai p x).l.length⟩).cF p C (cal:Int) A).calls k=if k=R.nf then MV.io p C cal A else if k=R.nf-1 then⟨R.ah.fn,(ke:Int)+1,ks,R.ah.slots,[],q+(ai p x).l.length⟩else nth m.calls k:=fun k hk=>by
   show nth (m.calls.set (m.calls.length-1) _++[MV.io p C cal A]) k=_;rw[xJ _ _ _ (by rw[List.length_set];omega),List.length_set,hlen];split
   ·rfl
   ·exact Go.Gd.bh _ _ _ _ jB
  obtain⟨ek,e1,e2⟩:=FC hC hc.lt;refine⟨?_,fun _=>?_,fun k hk=>?_,hM.heap,hM.in_,hM.ax,hM.status⟩
  ·show(m.calls.set (m.calls.length-1) _++[MV.io p C cal A]).length=R.nf+1;simp;omega
  ·have htop:RS.ah (R.push (jc p cal A))=jc p cal A:=(hu R.nf jl).trans (if_pos rfl);have hmt:MV.af ((m.aQ ⟨R.ah.fn,(ke:Int)+1,ks,R.ah.slots,[],q+(ai p x).l.length⟩).cF p C (cal:Int) A)=MV.io p C cal A:=by
    unfold MV.af;have:((m.aQ ⟨R.ah.fn,(ke:Int)+1,ks,R.ah.slots,[],q+(ai p x).l.length⟩).cF p C (cal:Int) A).calls.length-1=R.nf:=by show(m.calls.set (m.calls.length-1) _++[MV.io p C cal A]).length-1=_;simp;omega
    rw[this,hcc _ jl,if_pos rfl]
   rw[htop,hmt];refine⟨rfl,rfl,rfl,fun _=>⟨lB p,ek,.base _ ek rfl e2,?_⟩,fun h=>by cases h⟩;show MV.iJ C cal=((mT _ ek _ 0:Nat):Int);rw[e1];rfl
  ·have hk:k+1<R.nf+1:=hk;rw[hu k jB,jN,hcc k jB,jN];split
   ·rename_i e;have:nth R.aK k=R.ah:=by unfold RS.ah;rw[e]
    rw[this];refine⟨rfl,rfl,rfl,⟨N,_,hS,by show(ks:Int)=_;rw[hks],by show(ke:Int)+1+1=_;rw[<-hke,hcl];push_cast;omega,by show(0:Int)<=(ke:Int)+1;omega,by show(ke:Int)+1<(C.ins.length:Int);omega⟩,?_⟩;show nth C.ins ((ke:Int)+1).toNat=_;rw[show((ke:Int)+1).toNat=kc+(cC p n x kc).length from jB];exact hki
   ·exact hM.low k jB
end Go.Proofs.YtfkgcobaheegbaaGreatDoor

/- Lemmas. No conditions. -/
import Derived.Test.YtjpcgmjaipfgdaaGreatDoorBqA
set_option linter.all false
set_option maxHeartbeats 4000000
set_option maxRecDepth 10000
namespace Go.Gd
open Go
def eT(b:ak):List aD:=kS b.base b.own
def bZ:ak:=⟨sE,[],[],[]⟩
end Go.Gd
namespace Go.Proofs.YtjpcgmjaipfgdaaGreatDoor
open Go Go.Gd Tryz Go.Gd.MV
section
variable {p:af}{C:aI}{inp:TG}
def SJ(M:MV)(c:MC)(k:Nat)(hM:eN p C M)(hN:M.calls.length<=1)(hc:lZ p c)(P':c.stack=[])(Ut:c.at_=(k:Int))(hk:dM p C c.fn.toNat k):∃m1,bf p C inp (M.bc c) m1/\m1.dw C/\m1.status≠1:=by
 generalize hj:c.fn.toNat=j at hk;have h1:=hM.one;have ht:=MV.bp (M:=M) h1;have hst0:=hM.st;induction hk generalizing c with
 |@mark k n a h0 hn hl hi hkd hC h _=>
  have hm:ld p C j k n a:=⟨h0,hn,hl,hi,hkd,hC,h⟩;refine⟨_,bf.refl _,.inr ?_,?_⟩
  ·unfold MV.bn;rw[ht,Ut,Int.toNat_natCast,hm.head.2];rfl
  ·show M.status≠1;omega
 |@jump k k' hk hx h ih=> obtain⟨m1,g,d⟩:=ih { c with at_:=(k':Int) } ⟨hc.f0,hc.f1,hc.sl,hc.rg⟩ P' rfl hj;refine⟨m1,bf.ins h1 hM.dR hM.st Ut hk hx (fun h=>by cases h) (ow h1 hM.dR Ut hk hx (fun u hu=>by rw[P']at hu;cases hu) (by rw[P'];simp) ⟨by show(1:Int)<=16;decide,by show(16:Int)<=23;decide⟩ 0 (Nat.zero_le _) (fun _=>.inr (.inr (.inr (.inr (.inr (.inl rfl)))))) (fun h=>by cases h) (fun h=>by rcases h with h|h|h|h<;>cases h) (fun h=>by cases h)) ?_,d⟩;rw[MV.l4,ht,MV.dr];exact g
 |@fin k r hk hx=>
  have go:∀m',bf p C inp ((M.bc { c with at_:=(k:Int)+1 }).ends (vZ r)) m'->bf p C inp (M.bc c) m':=fun m' g=> bf.ins h1 hM.dR hM.st Ut hk hx (fun h=>by cases h) (ow h1 hM.dR Ut hk hx (fun u hu=>by rw[P']at hu;cases hu) (by rw[P'];simp) ⟨by show(1:Int)<=22;decide,by show(22:Int)<=23;decide⟩ 0 (Nat.zero_le _) (fun _=>.inr (.inr (.inr (.inr (.inr (.inr (.inr rfl))))))) (fun h=>by cases h) (fun h=>by rcases h with h|h|h|h<;>cases h) (fun h=>by cases h)) g
  refine⟨_,go _ (bf.refl _),?_⟩;unfold MV.ends;rw[MV.bH,if_pos hN];exact⟨.inl (by show(2:Int)≠0;decide),by show(2:Int)≠1;decide⟩
def S3(hs:gj p)(hE:vV p C):∃m1,bf p C inp (lW p C) m1/\m1.dw C/\m1.status≠1:=by
 obtain⟨j,hj,VV,_,had⟩:=Ai hs;obtain⟨ek,e1,e2⟩:=hE j hj;have hf:=hs.aw j hj;have p1:=hf.uH;have hM:eN p C (lW p C):=⟨by show 1<=1;decide,by show 1<=8;decide,rfl,by show(0:Int)<=0/\(0:Int)<=9;decide,fun k hk=>by have hk:k+1<1:=hk;omega,by show gi []<=40;decide,fun l hl=>by cases hl⟩
 have UX:(MV.ir p C (gU p) []).fn.toNat=j:=by show(gU p).toNat=j;rw[VV,Int.toNat_natCast]
 have TU:nth p.size (gU p).toNat=nth p.size j:=by rw[VV,Int.toNat_natCast]
 obtain⟨m1,g,d⟩:=SJ (inp:=inp) (lW p C) (MV.ir p C (gU p) []) ek hM (Nat.le_refl 1) ⟨by show 0<=gU p;omega,by show gU p<_;omega,by
  show(([]++List.replicate _ v0:List aj).length:Int)=nth p.size (gU p).toNat;rw[List.nil_append,List.length_replicate,TU];simp only[List.length_nil];omega,fun v hv=>by
  have hv:v∈([]++List.replicate _ v0:List aj):=hv;rw[List.nil_append]at hv;rw[(List.mem_replicate.1 hv).2];exact qI⟩ rfl (by show nth C.entry (gU p).toNat=_;rw[VV,Int.toNat_natCast];exact e1) (by rw[UX];exact e2)
 exact⟨m1,g,d⟩
end
open Classical in
noncomputable def m0V(p:af):MV:=if h:∃m1,bf p (ci p) [] (lW p (ci p)) m1/\m1.dw (ci p)then Classical.choose h else lW p (ci p)
def yV{p:af}{m:MV}(hg:bf p (ci p) [] (lW p (ci p)) m)(P':m.dw (ci p)):m0V p=m:=by have h:∃m1,bf p (ci p) [] (lW p (ci p)) m1/\m1.dw (ci p):=⟨m,hg,P'⟩;unfold m0V;rw[dif_pos h];obtain⟨⟨n,g⟩,s⟩:=Classical.choose_spec h;obtain⟨k,g2⟩:=hg;exact Ka g g2 s P'
def DW{p:af}(hs:gj p)(inp:TG):IM p inp (m0V p)/\(m0V p).time=0/\(m0V p).status≠1:=by obtain⟨m1,hg,P',h1,WU⟩:=Am hs (wP hs) [];obtain⟨m2,Vd,haM,h2⟩:=S3 (inp:=[]) hs (wP hs);have e1:=yV hg P';have e2:=yV Vd haM;have WU:m1.time=0:=WU;obtain⟨n,g⟩:=hg;have i0:=GL g;have i1:=Ig g (Int.le_refl 0);have i0:0<=m1.in_:=i0;have i1:m1.in_<=0:=i1;rw[e1]at e2;rw[e1];exact⟨⟨h1,jB,i0,jB⟩,WU,e2 ▸ h2⟩
noncomputable def runM(p:af)(F:TG->MV->MV)(inp:TG)(E:List aD)(t:Int):MV×Nat×Bool:=iQ MV.time (F inp) (iy p (ci p)) E (eD t) ((eD t-(m0V p).time).toNat+1) (m0V p) 0 false
noncomputable def badM(p:af)(F:TG->MV->MV)(inp:TG)(E:List aD)(t:Int):Int:=na E (eD t) (runM p F inp E t)
noncomputable def shotM(p:af)(F:TG->MV->MV)(inp:TG)(E:List aD)(t:Int):kV:=(runM p F inp E t).1.dB (ci p)
section
variable {p:af}(hp:mA p){F:TG->MV->MV}(hF:bQ p (ci p) F){inp:TG}(UE:inp.length<=1000)(hi:∀x∈inp,cf x){k:Nat}{E:List aD}(hE:∀k,k<E.length->cf (nth E k).v.n)
include hp hF UE hi hE
theorem Fc:∀(n:Nat) (x:ES) (j:Nat) (b:Bool),EI p inp k x->(eW jL (seE p inp k) E n x j b).1.m=(eW MV.time (iy p (ci p)) E n x.m j b).1/\(eW jL (seE p inp k) E n x j b).2=(eW MV.time (iy p (ci p)) E n x.m j b).2
 |0,x,j,b,_=>⟨rfl,rfl⟩
 |n+1,x,j,b,h=>by
  unfold eW;have et:jL x=x.m.time:=rfl;rw[et];by_cases c:b=false/\j<E.length/\(nth E j).at_=x.m.time
  ·rw[if_pos c,if_pos c];cases e:seE p inp k x (nth E j).name (nth E j).v with
   |none=>rw[IF hp h _ _ e];exact⟨rfl,rfl⟩
   |some x'=> obtain⟨m',e1,_,e3⟩:=Ar hp h _ _ (hE j c.2.1) e;rw[e1];have:=Fc n x' (j+1) false e3.2.1;rw[e3.1]at this;exact this
  ·rw[if_neg c,if_neg c];exact⟨rfl,rfl⟩
theorem Iu{T:Int}(hT:T<=200):∀(n:Nat) (x:ES) (j:Nat) (b:Bool),EI p inp k x->x.m.time<=T->(iQ jL (stE p inp k F) (seE p inp k) E T n x j b).1.m=(iQ MV.time (F inp) (iy p (ci p)) E T n x.m j b).1/\(iQ jL (stE p inp k F) (seE p inp k) E T n x j b).2=(iQ MV.time (F inp) (iy p (ci p)) E T n x.m j b).2
 |0,x,j,b,_,_=>⟨rfl,rfl⟩
 |n+1,x,j,b,h,ht=>by
  obtain⟨a1,a2,_⟩:=xN (wW hp hF UE hi hE) (E.length+1) x j b h;obtain⟨b1,b2⟩:=Fc hp hF UE hi hE (E.length+1) x j b h;unfold iQ;generalize eW MV.time (iy p (ci p)) E (E.length+1) x.m j b=Q at*;generalize eW jL (seE p inp k) E (E.length+1) x j b=R at*;obtain⟨R1,R2⟩:=R;obtain⟨Q1,Q2⟩:=Q;have b1:R1.m=Q1:=b1;have b2:R2=Q2:=b2;subst b1 b2;have a1:EI p inp k R1:=a1;have a2:R1.m.time=x.m.time:=a2;simp only;have et:jL R1=R1.m.time:=rfl;rw[et];by_cases c:R1.m.time=T
  ·rw[if_pos c,if_pos c];exact⟨rfl,rfl⟩
  rw[if_neg c,if_neg c];have P':=Cv hp hF UE hi a1 jB;have e2:jL (stE p inp k F R1)=(F inp R1.m).time:=by show(stE p inp k F R1).m.time=_;rw[P'.1]
  have e3:=((wW hp hF UE hi (k:=k) hE).st R1 a1 (by show R1.m.time<200;omega)).2;rw[e2];by_cases d:(F inp R1.m).time=R1.m.time
  ·rw[if_pos d,if_pos d];exact⟨P'.1,rfl⟩
  ·rw[if_neg d,if_neg d];have:=Iu hT n (stE p inp k F R1) R2.1 R2.2 P'.2.1 (by
    show(stE p inp k F R1).m.time<=T;have e3:(stE p inp k F R1).m.time=R1.m.time\/(stE p inp k F R1).m.time=R1.m.time+1:=e3;omega)
   rw[P'.1]at this;exact this
theorem AZ(T0:fu p)(hl:E.length<=1000)(t:Int)(ht:cf t):∃k EE,cU prog 127 [.agg (cd p),aO eI 1 inp,aO bw 5 E,rI t] [] (.aQ [.pt (hn 3 k) 0 0 0,rI (badM p F inp E t)]) EE/\cU prog 63 [.pt (hn 3 k) 0 0 0] EE (.agg (lI (shotM p F inp E t))) EE/\MI p (ci p) (runM p F inp E t).1/\Bd inp.length (runM p F inp E t).1:=by
 obtain⟨x0,ZB,WU,hg,P',hc⟩:=Ng hp T0 hF UE hi hE hl t ht;have e0:=yV hg P';have h0:x0.m.time<=eD t:=by unfold eD;omega
 have hT:eD t<=200:=by unfold eD;omega
 obtain⟨p1,p2⟩:=Iu hp hF UE hi (k:=x0.N.k) hE hT ((eD t-jL x0).toNat+1) x0 0 false ZB h0;have U8:=(wN (wW hp hF UE hi (k:=x0.N.k) hE) hT ((eD t-jL x0).toNat+1) x0 0 false ZB h0 (Nat.zero_le _)).1;have er:runM p F inp E t=iQ MV.time (F inp) (iy p (ci p)) E (eD t) ((eD t-jL x0).toNat+1) x0.m 0 false:=by unfold runM;rw[e0];rfl
 have eb:na E (eD t) (iQ jL (stE p inp x0.N.k F) (seE p inp x0.N.k) E (eD t) ((eD t-jL x0).toNat+1) x0 0 false)=badM p F inp E t:=by unfold badM na;rw[er,p2]
 rw[eb]at hc;rw[<-er]at p1;generalize iQ jL (stE p inp x0.N.k F) (seE p inp x0.N.k) E (eD t) ((eD t-jL x0).toNat+1) x0 0 false=G at*;have hC:=rG hp.ok;have:=hC.len;have:=hC.pj;have:=hp.ok.ok.aa.aw;have:=hp.ok.ok.size;have Vg:=xM (U8.R.uI U8.ok U8.sub) (zP U8.mi U8.bd jB);have Xa:=U8.key;rw[show mP G.1.N=.pt (hn 3 x0.N.k) 0 0 0 by unfold mP;rw[Xa]]at Vg;refine⟨x0.N.k,G.1.E,⟨hc,⟨fun _ _ _=>rfl,List.nodup_nil,fun i r h=>by cases h⟩,U8.ok,fun i h=>(h rfl).elim,rfl⟩,?_,p1 ▸ U8.mi,p1 ▸ U8.bd⟩;unfold shotM;rw[<-p1];exact Vg
end
section
variable (p:af)(F:TG->MV->MV)
noncomputable def atB(b:ak)(t:Int):kV:=shotM p F b.aC (eT b) t
noncomputable def badB(b:ak):Int:=badM p F b.aC (eT b) 200
noncomputable def fineB(b:ak):ak×Int:=if badB p F b≠0 then(bZ,65)else(b,0)
noncomputable def forkB(ok:Bool)(b:ak)(nm:TI)(x:aD):ak×Int:=
 if ok=false\/nH x=false then(bZ,1)else if(atB p F b x.at_).time<x.at_ then(bZ,63)
 else if 8<=(dT (eT b) x.at_).length then(bZ,62)else fineB p F ⟨nm,b.aC,dT (eT b) x.at_,[x]⟩
noncomputable def inputB(ok:Bool)(b:ak)(nm:TI)(t n:Int):ak×Int:=
 if ok=false\/t<0\/200<t then(bZ,1)else if(atB p F b t).time<t then(bZ,63)
 else if 16<=(atB p F b t).in_ then(bZ,62)else(⟨nm,b.aC.take (atB p F b t).in_.toNat++[n],dT (eT b) t,[]⟩,0)
noncomputable def addB(b:ak)(x:aD):ak×Int:=
 if nH x=false then(bZ,1)else if 8<=b.base.length+b.own.length then(bZ,62)else fineB p F { b with own:=kJ x b.own }
noncomputable def rebaseB(a j9:ak):ak×Int×Int:=
 if 8<(eT j9).length+a.own.length then(bZ,0,62)else if badB p F ⟨a.name,j9.aC,eT j9,a.own⟩≠0 then(bZ,badB p F ⟨a.name,j9.aC,eT j9,a.own⟩,65)else(⟨a.name,j9.aC,eT j9,a.own⟩,0,0)
end
def pd(b:ak)(n:Int):ak×Int:=if 16<=b.aC.length then(bZ,62)else({ b with aC:=b.aC++[n] },0)
section
variable {p:af}(hs:gj p){F:TG->MV->MV}(hF:bQ p (ci p) F){inp:TG}(hi:∀x∈inp,cf x){E:List aD}(hE:∀x∈E,cf x.v.n)
def AE(t:Int):0<=eD t/\eD t<=200:=by unfold eD;omega
def ya(h:∀x∈E,cf x.v.n):∀k,k<E.length->cf (nth E k).v.n:=fun k hk=>h _ (fg hk)
include hF hi hE
include hs
theorem Ay(t:Int):IM p inp (runM p F inp E t).1/\(runM p F inp E t).1.time<=eD t:=by obtain⟨a,b,_⟩:=DW hs inp;obtain⟨c0,c1⟩:=AE t;have:=wN (DU hF hi (ya hE)) c1 ((eD t-(m0V p).time).toNat+1) (m0V p) 0 false a jB (Nat.zero_le _);exact⟨this.1,this.2.2.1⟩
end
end Go.Proofs.YtjpcgmjaipfgdaaGreatDoor
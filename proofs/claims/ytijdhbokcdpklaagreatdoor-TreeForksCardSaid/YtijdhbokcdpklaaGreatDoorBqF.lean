/- Lemmas. No conditions. -/
import Derived.Test.YtijdhbokcdpklaaGreatDoorBqA
set_option linter.all false
set_option maxHeartbeats 4000000
set_option maxRecDepth 10000
namespace Go.Gd
open Go
def dB(b:ak):List aB:=gY b.base b.own
def bZ:ak:=⟨sE,[],[],[]⟩
end Go.Gd
namespace Go.Proofs.YtijdhbokcdpklaaGreatDoor
open Go Go.Gd Tryz Go.Gd.MV
section
variable {p:af}{C:aI}{inp:UG}
def Qv(M:MV)(c:MC)(k:Nat)(hM:eZ p C M)(hN:M.calls.length<=1)(hc:l6 p c)(P':c.stack=[])(Vm:c.at_=(k:Int))(hk:dU p C c.fn.toNat k):∃m1,bc p C inp (M.aW c) m1/\m1.dF C/\m1.status≠1:=by
 generalize hj:c.fn.toNat=j at hk;have h1:=hM.one;have ht:=MV.bp (M:=M) h1;have hst0:=hM.st;induction hk generalizing c with
 |@mark k n a h0 hn hl hi hkd hC h _=>
  have hm:lf p C j k n a:=⟨h0,hn,hl,hi,hkd,hC,h⟩;refine⟨_,bc.refl _,.inr ?_,?_⟩
  ·unfold MV.bg;rw[ht,Vm,Int.toNat_natCast,hm.head.2];rfl
  ·show M.status≠1;omega
 |@jump k k' hk hx h ih=> obtain⟨m1,g,d⟩:=ih { c with at_:=(k':Int) } ⟨hc.f0,hc.f1,hc.sl,hc.rg⟩ P' rfl hj;refine⟨m1,bc.ins h1 hM.dX hM.st Vm hk hx (fun h=>by cases h) (oC h1 hM.dX Vm hk hx (fun u hu=>by rw[P']at hu;cases hu) (by rw[P'];simp) ⟨by show(1:Int)<=16;decide,by show(16:Int)<=23;decide⟩ 0 (Nat.zero_le _) (fun _=>.inr (.inr (.inr (.inr (.inr (.inl rfl)))))) (fun h=>by cases h) (fun h=>by rcases h with h|h|h|h<;>cases h) (fun h=>by cases h)) ?_,d⟩;rw[MV.mw,ht,MV.dt];exact g
 |@fin k r hk hx=>
  have go:∀m',bc p C inp ((M.aW { c with at_:=(k:Int)+1 }).ends (vZ r)) m'->bc p C inp (M.aW c) m':=fun m' g=> bc.ins h1 hM.dX hM.st Vm hk hx (fun h=>by cases h) (oC h1 hM.dX Vm hk hx (fun u hu=>by rw[P']at hu;cases hu) (by rw[P'];simp) ⟨by show(1:Int)<=22;decide,by show(22:Int)<=23;decide⟩ 0 (Nat.zero_le _) (fun _=>.inr (.inr (.inr (.inr (.inr (.inr (.inr rfl))))))) (fun h=>by cases h) (fun h=>by rcases h with h|h|h|h<;>cases h) (fun h=>by cases h)) g
  refine⟨_,go _ (bc.refl _),?_⟩;unfold MV.ends;rw[MV.bM,if_pos hN];exact⟨.inl (by show(2:Int)≠0;decide),by show(2:Int)≠1;decide⟩
def LG(hs:fX p)(hE:uX p C):∃m1,bc p C inp (l4 p C) m1/\m1.dF C/\m1.status≠1:=by
 obtain⟨j,hj,WR,_,haG⟩:=AL hs;obtain⟨ek,e1,e2⟩:=hE j hj;have hf:=hs.aw j hj;have p1:=hf.wl;have hM:eZ p C (l4 p C):=⟨by show 1<=1;decide,by show 1<=8;decide,rfl,by show(0:Int)<=0/\(0:Int)<=9;decide,fun k hk=>by have hk:k+1<1:=hk;omega,by show gr []<=40;decide,fun l hl=>by cases hl⟩
 have VO:(MV.iH p C (ii p) []).fn.toNat=j:=by show(ii p).toNat=j;rw[WR,Int.toNat_natCast]
 have Uu:nth p.size (ii p).toNat=nth p.size j:=by rw[WR,Int.toNat_natCast]
 obtain⟨m1,g,d⟩:=Qv (inp:=inp) (l4 p C) (MV.iH p C (ii p) []) ek hM (Nat.le_refl 1) ⟨by show 0<=ii p;omega,by show ii p<_;omega,by
  show(([]++List.replicate _ v0:List aj).length:Int)=nth p.size (ii p).toNat;rw[List.nil_append,List.length_replicate,Uu];simp only[List.length_nil];omega,fun v hv=>by
  have hv:v∈([]++List.replicate _ v0:List aj):=hv;rw[List.nil_append]at hv;rw[(List.mem_replicate.1 hv).2];exact rP⟩ rfl (by show nth C.entry (ii p).toNat=_;rw[WR,Int.toNat_natCast];exact e1) (by rw[VO];exact e2)
 exact⟨m1,g,d⟩
end
open Classical in
noncomputable def m0V(p:af):MV:=if h:∃m1,bc p (bz p) [] (l4 p (bz p)) m1/\m1.dF (bz p)then Classical.choose h else l4 p (bz p)
def yG{p:af}{m:MV}(hg:bc p (bz p) [] (l4 p (bz p)) m)(P':m.dF (bz p)):m0V p=m:=by have h:∃m1,bc p (bz p) [] (l4 p (bz p)) m1/\m1.dF (bz p):=⟨m,hg,P'⟩;unfold m0V;rw[dif_pos h];obtain⟨⟨n,g⟩,s⟩:=Classical.choose_spec h;obtain⟨k,g2⟩:=hg;exact DR g g2 s P'
def pE{p:af}(hs:fX p)(inp:UG):IM p inp (m0V p)/\(m0V p).time=0/\(m0V p).status≠1:=by obtain⟨m1,hg,P',h1,Xn⟩:=AO hs (xu hs) [];obtain⟨m2,V9,hbj,h2⟩:=LG (inp:=[]) hs (xu hs);have e1:=yG hg P';have e2:=yG V9 hbj;have Xn:m1.time=0:=Xn;obtain⟨n,g⟩:=hg;have i0:=Be g;have i1:=Jz g (Int.le_refl 0);have i0:0<=m1.in_:=i0;have i1:m1.in_<=0:=i1;rw[e1]at e2;rw[e1];exact⟨⟨h1,jB,i0,jB⟩,Xn,e2 ▸ h2⟩
noncomputable def runM(p:af)(F:UG->MV->MV)(inp:UG)(E:List aB)(t:Int):MV×Nat×Bool:=cZ MV.time (F inp) (dv p (bz p)) E (dL t) ((dL t-(m0V p).time).toNat+1) (m0V p) 0 false
noncomputable def badM(p:af)(F:UG->MV->MV)(inp:UG)(E:List aB)(t:Int):Int:=l5 E (dL t) (runM p F inp E t)
noncomputable def shotM(p:af)(F:UG->MV->MV)(inp:UG)(E:List aB)(t:Int):lg:=(runM p F inp E t).1.dJ (bz p)
section
variable {p:af}(hp:mJ p){F:UG->MV->MV}(hF:bF p (bz p) F){inp:UG}(VB:inp.length<=1000)(hi:∀x∈inp,bD x){k:Nat}{E:List aB}(hE:∀k,k<E.length->bD (nth E k).v.n)
include hp hF VB hi hE
theorem Et:∀(n:Nat) (x:ES) (j:Nat) (b:Bool),EI p inp k x->(cv jS (seE p inp k) E n x j b).1.m=(cv MV.time (dv p (bz p)) E n x.m j b).1/\(cv jS (seE p inp k) E n x j b).2=(cv MV.time (dv p (bz p)) E n x.m j b).2
 |0,x,j,b,_=>⟨rfl,rfl⟩
 |n+1,x,j,b,h=>by
  unfold cv;have et:jS x=x.m.time:=rfl;rw[et];by_cases c:b=false/\j<E.length/\(nth E j).at_=x.m.time
  ·rw[if_pos c,if_pos c];cases e:seE p inp k x (nth E j).name (nth E j).v with
   |none=>rw[JP hp h _ _ e];exact⟨rfl,rfl⟩
   |some x'=> obtain⟨m',e1,_,e3⟩:=B9 hp h _ _ (hE j c.2.1) e;rw[e1];have:=Et n x' (j+1) false e3.2.1;rw[e3.1]at this;exact this
  ·rw[if_neg c,if_neg c];exact⟨rfl,rfl⟩
theorem IT{T:Int}(hT:T<=200):∀(n:Nat) (x:ES) (j:Nat) (b:Bool),EI p inp k x->x.m.time<=T->(cZ jS (stE p inp k F) (seE p inp k) E T n x j b).1.m=(cZ MV.time (F inp) (dv p (bz p)) E T n x.m j b).1/\(cZ jS (stE p inp k F) (seE p inp k) E T n x j b).2=(cZ MV.time (F inp) (dv p (bz p)) E T n x.m j b).2
 |0,x,j,b,_,_=>⟨rfl,rfl⟩
 |n+1,x,j,b,h,ht=>by
  obtain⟨a1,a2,_⟩:=na (xA hp hF VB hi hE) (E.length+1) x j b h;obtain⟨b1,b2⟩:=Et hp hF VB hi hE (E.length+1) x j b h;unfold cZ;generalize cv MV.time (dv p (bz p)) E (E.length+1) x.m j b=Q at*;generalize cv jS (seE p inp k) E (E.length+1) x j b=R at*;obtain⟨R1,R2⟩:=R;obtain⟨Q1,Q2⟩:=Q;have b1:R1.m=Q1:=b1;have b2:R2=Q2:=b2;subst b1 b2;have a1:EI p inp k R1:=a1;have a2:R1.m.time=x.m.time:=a2;simp only;have et:jS R1=R1.m.time:=rfl;rw[et];by_cases c:R1.m.time=T
  ·rw[if_pos c,if_pos c];exact⟨rfl,rfl⟩
  rw[if_neg c,if_neg c];have P':=A3 hp hF VB hi a1 jB;have e2:jS (stE p inp k F R1)=(F inp R1.m).time:=by show(stE p inp k F R1).m.time=_;rw[P'.1]
  have e3:=((xA hp hF VB hi (k:=k) hE).st R1 a1 (by show R1.m.time<200;omega)).2;rw[e2];by_cases d:(F inp R1.m).time=R1.m.time
  ·rw[if_pos d,if_pos d];exact⟨P'.1,rfl⟩
  ·rw[if_neg d,if_neg d];have:=IT hT n (stE p inp k F R1) R2.1 R2.2 P'.2.1 (by
    show(stE p inp k F R1).m.time<=T;have e3:(stE p inp k F R1).m.time=R1.m.time\/(stE p inp k F R1).m.time=R1.m.time+1:=e3;omega)
   rw[P'.1]at this;exact this
theorem Bl(Uw:fw p)(hl:E.length<=1000)(t:Int)(ht:bD t):∃k EE,cW prog 61 [.agg (cn p),aP eI 1 inp,aP bA 5 E,rI t] [] (.aQ [.pt (hn 3 k) 0 0 0,rI (badM p F inp E t)]) EE/\cW prog 63 [.pt (hn 3 k) 0 0 0] EE (.agg (lp (shotM p F inp E t))) EE/\MI p (bz p) (runM p F inp E t).1/\Bd inp.length (runM p F inp E t).1:=by
 obtain⟨x0,hEI,Xn,hg,P',hc⟩:=P5 hp Uw hF VB hi hE hl t ht;have e0:=yG hg P';have h0:x0.m.time<=dL t:=by unfold dL;omega
 have hT:dL t<=200:=by unfold dL;omega
 obtain⟨p1,p2⟩:=IT hp hF VB hi (k:=x0.N.k) hE hT ((dL t-jS x0).toNat+1) x0 0 false hEI h0;have V2:=(sF (xA hp hF VB hi (k:=x0.N.k) hE) hT ((dL t-jS x0).toNat+1) x0 0 false hEI h0 (Nat.zero_le _)).1;have er:runM p F inp E t=cZ MV.time (F inp) (dv p (bz p)) E (dL t) ((dL t-jS x0).toNat+1) x0.m 0 false:=by unfold runM;rw[e0];rfl
 have eb:l5 E (dL t) (cZ jS (stE p inp x0.N.k F) (seE p inp x0.N.k) E (dL t) ((dL t-jS x0).toNat+1) x0 0 false)=badM p F inp E t:=by unfold badM l5;rw[er,p2]
 rw[eb]at hc;rw[<-er]at p1;generalize cZ jS (stE p inp x0.N.k F) (seE p inp x0.N.k) E (dL t) ((dL t-jS x0).toNat+1) x0 0 false=G at*;have hC:=rX hp.ok;have:=hC.len;have:=hC.o0;have:=hp.ok.ok.aa.aw;have:=hp.ok.ok.size;have Wb:=xz (V2.R.vE V2.ok V2.sub) (yX V2.mi V2.bd jB);have XA:=V2.key;rw[show mP G.1.N=.pt (hn 3 x0.N.k) 0 0 0 by unfold mP;rw[XA]]at Wb;refine⟨x0.N.k,G.1.E,⟨hc,⟨fun _ _ _=>rfl,List.nodup_nil,fun i r h=>by cases h⟩,V2.ok,fun i h=>(h rfl).elim,rfl⟩,?_,p1 ▸ V2.mi,p1 ▸ V2.bd⟩;unfold shotM;rw[<-p1];exact Wb
end
section
variable (p:af)(F:UG->MV->MV)
noncomputable def atB(b:ak)(t:Int):lg:=shotM p F b.aD (dB b) t
noncomputable def badB(b:ak):Int:=badM p F b.aD (dB b) 200
noncomputable def fineB(b:ak):ak×Int:=if badB p F b≠0 then(bZ,65)else(b,0)
noncomputable def forkB(ok:Bool)(b:ak)(nm:UI)(x:aB):ak×Int:=
 if ok=false\/lN x=false then(bZ,1)else if(atB p F b x.at_).time<x.at_ then(bZ,63)
 else if 8<=(ci (dB b) x.at_).length then(bZ,62)else fineB p F ⟨nm,b.aD,ci (dB b) x.at_,[x]⟩
noncomputable def inputB(ok:Bool)(b:ak)(nm:UI)(t n:Int):ak×Int:=
 if ok=false\/t<0\/200<t then(bZ,1)else if(atB p F b t).time<t then(bZ,63)
 else if 16<=(atB p F b t).in_ then(bZ,62)else(⟨nm,b.aD.take (atB p F b t).in_.toNat++[n],ci (dB b) t,[]⟩,0)
noncomputable def addB(b:ak)(x:aB):ak×Int:=
 if lN x=false then(bZ,1)else if 8<=b.base.length+b.own.length then(bZ,62)else fineB p F { b with own:=gJ x b.own }
noncomputable def rebaseB(a kj:ak):ak×Int×Int:=
 if 8<(dB kj).length+a.own.length then(bZ,0,62)else if badB p F ⟨a.name,kj.aD,dB kj,a.own⟩≠0 then(bZ,badB p F ⟨a.name,kj.aD,dB kj,a.own⟩,65)else(⟨a.name,kj.aD,dB kj,a.own⟩,0,0)
end
def ot(b:ak)(n:Int):ak×Int:=if 16<=b.aD.length then(bZ,62)else({ b with aD:=b.aD++[n] },0)
section
variable {p:af}(hs:fX p){F:UG->MV->MV}(hF:bF p (bz p) F){inp:UG}(hi:∀x∈inp,bD x){E:List aB}(hE:∀x∈E,bD x.v.n)
variable{t:Int}
def sN(h0:0<=t)(h1:t<=200):dL t=t:=by unfold dL;omega
def Ai(t:Int):0<=dL t/\dL t<=200:=by unfold dL;omega
def mh(h:∀x∈E,bD x.v.n):∀k,k<E.length->bD (nth E k).v.n:=fun k hk=>h _ (ff hk)
include hF hi hE
theorem Ef{T T':Int}(hT:T<=200)(hT':T'<=T):∀(n n':Nat) (s:MV) (k:Nat) (b:Bool),IM p inp s->s.time<=T'->T-s.time<n->T'-s.time<n'->(cZ MV.time (F inp) (dv p (bz p)) E T n s k b).1.time=T->(cZ MV.time (F inp) (dv p (bz p)) E T' n' s k b).1.time=T'/\(cZ MV.time (F inp) (dv p (bz p)) E T' n' s k b).1.in_<=(cZ MV.time (F inp) (dv p (bz p)) E T n s k b).1.in_
 |0,_,s,k,b,_,_,h,_,_=>by omega
 |_,0,s,k,b,_,_,_,h,_=>jB
 |n+1,n'+1,s,k,b,h,ht,h1,h2,h3=>by
  have W7:=mh hE;obtain⟨a1,a2,_⟩:=na (mW hF hi W7) (E.length+1) s k b h;unfold cZ at h3 ⊢;generalize cv MV.time (dv p (bz p)) E (E.length+1) s k b=Q at*;obtain⟨c1,c2⟩:=pi hF hi a1;by_cases c:Q.1.time=T'
  ·rw[if_pos c];refine⟨c,?_⟩;split
   ·exact Int.le_refl _
   have hf:=(CL hF hi a1.mi).1;split
   ·exact hf
   ·have:=Bs hF hi W7 hT n _ Q.2.1 Q.2.2 c1 (by rcases c2 with e|⟨e,_⟩<;>omega);omega
  ·have c':¬Q.1.time=T:=jB;rw[if_neg c']at h3;rw[if_neg c,if_neg c'];by_cases d:(F inp Q.1).time=Q.1.time
   ·rw[if_pos d]at h3;have h3:(F inp Q.1).time=T:=h3;omega
   ·rw[if_neg d]at h3;rw[if_neg d,if_neg d];have h4:(F inp Q.1).time=Q.1.time+1:=c2.elim (fun e=>(d e).elim) fun e=>e.1
    exact Ef hT hT' n n' _ Q.2.1 Q.2.2 c1 jB jB jB h3
include hs
theorem F1{E':List aB}(W7:∀x∈E',bD x.v.n)(hS:km E)(hS':km E')(h0:0<=t)(h1:t<=200)(e:ci E t=ci E' t):(runM p F inp E t).1=(runM p F inp E' t).1:=by
 have key:∀{E:List aB},(∀x∈E,bD x.v.n)->km E->(runM p F inp E t).1=(runM p F inp (ci E t) t).1:=fun{E} hE hS=>by obtain⟨K,h2,h3,h4⟩:=B5 (t:=t) E hS;obtain⟨a,b,_⟩:=pE hs inp;have ec:=sN h0 h1;have Uq:=Cs (mW hF hi (mh hE)) h1 h4 ((t-(m0V p).time).toNat+1) (m0V p) 0 false a jB (Nat.zero_le _);have:=AR (tm:=MV.time) (st:=F inp) (se:=dv p (bz p)) (E:=E) h2 (t:=t) ((t-(m0V p).time).toNat+1) (m0V p) 0 false false (Nat.zero_le _) (fun _=>rfl) Uq;unfold runM;rw[ec,h3];exact this.1.symm
 rw[key hE hS,key W7 hS',e]
theorem rh(t:Int):IM p inp (runM p F inp E t).1/\(runM p F inp E t).1.time<=dL t:=by obtain⟨a,b,_⟩:=pE hs inp;obtain⟨c0,c1⟩:=Ai t;have:=sF (mW hF hi (mh hE)) c1 ((dL t-(m0V p).time).toNat+1) (m0V p) 0 false a jB (Nat.zero_le _);exact⟨this.1,this.2.2.1⟩
theorem Ik{t':Int}(h0:0<=t')(h1:t'<=t)(h2:t<=200)(ht:¬(runM p F inp E t).1.time<t){inp':UG}(Vi:∀x∈inp',bD x)(ha:fu (runM p F inp E t).1.in_ inp inp'):(runM p F inp' E t').1=(runM p F inp E t').1/\(runM p F inp E t').1.time=t':=by obtain⟨a,b,_⟩:=pE hs inp;have e1:=sN (t:=t) jB h2;have e2:=sN (t:=t') h0 jB;have hf:=(rh hs hF hi hE t).2;have hg:=Ef hF hi hE h2 h1 ((t-(m0V p).time).toNat+1) ((t'-(m0V p).time).toNat+1) (m0V p) 0 false a jB jB jB (by unfold runM at hf ht;rw[e1]at hf ht;omega);unfold runM at ha ⊢;rw[e1]at ha;rw[e2];refine⟨?_,hg.1⟩;rw[B7 hF hi (mh hE) jB Vi _ _ 0 false a jB (.inl hg.1) (ha.le hg.2)]
end
end Go.Proofs.YtijdhbokcdpklaaGreatDoor
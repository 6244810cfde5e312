/- Lemmas. No conditions. -/
import Derived.Test.YtjpcgmjaipfgdaaGreatDoorBqA
set_option linter.all false
set_option maxHeartbeats 4000000
set_option maxRecDepth 10000
namespace Go.Gd
open Go
def fp(b:ay):List aD:=kP b.base b.own
def bZ:ay:=⟨sE,[],[],[]⟩
end Go.Gd
namespace Go.Proofs.YtjpcgmjaipfgdaaGreatDoor
open Go Go.Gd Tryz Go.Gd.MV
section
variable {p:af}{C:aH}{inp:TD}
def Lp(M:MV)(c:MC)(k:Nat)(hM:eK p C M)(hN:M.calls.length<=1)(hc:lS p c)(P':c.stack=[])(T8:c.at_=(k:Int))(hk:dN p C c.fn.toNat k):∃m1,bf p C inp (M.ba c) m1/\m1.dG C/\m1.status≠1:=by
 generalize hj:c.fn.toNat=j at hk;have h1:=hM.one;have ht:=MV.bp (M:=M) h1;have hst0:=hM.st;induction hk generalizing c with
 |@mark k n a h0 hn hl hi hkd hC h _=>
  have hm:kX p C j k n a:=⟨h0,hn,hl,hi,hkd,hC,h⟩;refine⟨_,bf.refl _,.inr ?_,?_⟩
  ·unfold MV.bn;rw[ht,T8,Int.toNat_natCast,hm.head.2];rfl
  ·show M.status≠1;omega
 |@jump k k' hk hx h ih=> obtain⟨m1,g,d⟩:=ih { c with at_:=(k':Int) } ⟨hc.f0,hc.f1,hc.sl,hc.rg⟩ P' rfl hj;refine⟨m1,bf.ins h1 hM.dR hM.st T8 hk hx (fun h=>by cases h) (og h1 hM.dR T8 hk hx (fun u hu=>by rw[P']at hu;cases hu) (by rw[P'];simp) ⟨by show(1:Int)<=16;decide,by show(16:Int)<=23;decide⟩ 0 (Nat.zero_le _) (fun _=>.inr (.inr (.inr (.inr (.inr (.inl rfl)))))) (fun h=>by cases h) (fun h=>by rcases h with h|h|h|h<;>cases h) (fun h=>by cases h)) ?_,d⟩;rw[MV.lZ,ht,MV.dp];exact g
 |@fin k r hk hx=>
  have go:∀m',bf p C inp ((M.ba { c with at_:=(k:Int)+1 }).ends (vZ r)) m'->bf p C inp (M.ba c) m':=fun m' g=> bf.ins h1 hM.dR hM.st T8 hk hx (fun h=>by cases h) (og h1 hM.dR T8 hk hx (fun u hu=>by rw[P']at hu;cases hu) (by rw[P'];simp) ⟨by show(1:Int)<=22;decide,by show(22:Int)<=23;decide⟩ 0 (Nat.zero_le _) (fun _=>.inr (.inr (.inr (.inr (.inr (.inr (.inr rfl))))))) (fun h=>by cases h) (fun h=>by rcases h with h|h|h|h<;>cases h) (fun h=>by cases h)) g
  refine⟨_,go _ (bf.refl _),?_⟩;unfold MV.ends;rw[MV.bG,if_pos hN];exact⟨.inl (by show(2:Int)≠0;decide),by show(2:Int)≠1;decide⟩
def M1(hs:gk p)(hE:vJ p C):∃m1,bf p C inp (lQ p C) m1/\m1.dG C/\m1.status≠1:=by
 obtain⟨j,hj,VA,_,ZW⟩:=AE hs;obtain⟨ek,e1,e2⟩:=hE j hj;have hf:=hs.av j hj;have p1:=hf.vV;have hM:eK p C (lQ p C):=⟨by show 1<=1;decide,by show 1<=8;decide,rfl,by show(0:Int)<=0/\(0:Int)<=9;decide,fun k hk=>by have hk:k+1<1:=hk;omega,by show gi []<=40;decide,fun l hl=>by cases hl⟩
 have UA:(MV.iE p C (gQ p) []).fn.toNat=j:=by show(gQ p).toNat=j;rw[VA,Int.toNat_natCast]
 have Ti:nth p.size (gQ p).toNat=nth p.size j:=by rw[VA,Int.toNat_natCast]
 obtain⟨m1,g,d⟩:=Lp (inp:=inp) (lQ p C) (MV.iE p C (gQ p) []) ek hM (Nat.le_refl 1) ⟨by show 0<=gQ p;omega,by show gQ p<_;omega,by
  show(([]++List.replicate _ v0:List aj).length:Int)=nth p.size (gQ p).toNat;rw[List.nil_append,List.length_replicate,Ti];simp only[List.length_nil];omega,fun v hv=>by
  have hv:v∈([]++List.replicate _ v0:List aj):=hv;rw[List.nil_append]at hv;rw[(List.mem_replicate.1 hv).2];exact qZ⟩ rfl (by show nth C.entry (gQ p).toNat=_;rw[VA,Int.toNat_natCast];exact e1) (by rw[UA];exact e2)
 exact⟨m1,g,d⟩
end
open Classical in
noncomputable def m0V(p:af):MV:=if h:∃m1,bf p (cf p) [] (lQ p (cf p)) m1/\m1.dG (cf p)then Classical.choose h else lQ p (cf p)
def xN{p:af}{m:MV}(hg:bf p (cf p) [] (lQ p (cf p)) m)(P':m.dG (cf p)):m0V p=m:=by have h:∃m1,bf p (cf p) [] (lQ p (cf p)) m1/\m1.dG (cf p):=⟨m,hg,P'⟩;unfold m0V;rw[dif_pos h];obtain⟨⟨n,g⟩,s⟩:=Classical.choose_spec h;obtain⟨k,g2⟩:=hg;exact On g g2 s P'
def Bm{p:af}(hs:gk p)(inp:TD):IM p inp (m0V p)/\(m0V p).time=0/\(m0V p).status≠1:=by obtain⟨m1,hg,P',h1,Wy⟩:=B5 hs (wT hs) [];obtain⟨m2,US,haD,h2⟩:=M1 (inp:=[]) hs (wT hs);have e1:=xN hg P';have e2:=xN US haD;have Wy:m1.time=0:=Wy;obtain⟨n,g⟩:=hg;have i0:=EP g;have i1:=Dr g (Int.le_refl 0);have i0:0<=m1.in_:=i0;have i1:m1.in_<=0:=i1;rw[e1]at e2;rw[e1];exact⟨⟨h1,jB,i0,jB⟩,Wy,e2 ▸ h2⟩
noncomputable def runM(p:af)(F:TD->MV->MV)(inp:TD)(E:List aD)(t:Int):MV×Nat×Bool:=iq MV.time (F inp) (gX p (cf p)) E (dV t) ((dV t-(m0V p).time).toNat+1) (m0V p) 0 false
noncomputable def badM(p:af)(F:TD->MV->MV)(inp:TD)(E:List aD)(t:Int):Int:=nh E (dV t) (runM p F inp E t)
noncomputable def shotM(p:af)(F:TD->MV->MV)(inp:TD)(E:List aD)(t:Int):kZ:=(runM p F inp E t).1.dD (cf p)
section
variable {p:af}(hp:mn p){F:TD->MV->MV}(hF:bQ p (cf p) F){inp:TD}(Uk:inp.length<=1000)(hi:∀x∈inp,cn x){k:Nat}{E:List aD}(hE:∀k,k<E.length->cn (nth E k).v.n)
include hp hF Uk hi hE
theorem FH:∀(n:Nat) (x:ES) (j:Nat) (b:Bool),EI p inp k x->(eT jm (seE p inp k) E n x j b).1.m=(eT MV.time (gX p (cf p)) E n x.m j b).1/\(eT jm (seE p inp k) E n x j b).2=(eT MV.time (gX p (cf p)) E n x.m j b).2
 |0,x,j,b,_=>⟨rfl,rfl⟩
 |n+1,x,j,b,h=>by
  unfold eT;have et:jm x=x.m.time:=rfl;rw[et];by_cases c:b=false/\j<E.length/\(nth E j).at_=x.m.time
  ·rw[if_pos c,if_pos c];cases e:seE p inp k x (nth E j).name (nth E j).v with
   |none=>rw[E3 hp h _ _ e];exact⟨rfl,rfl⟩
   |some x'=> obtain⟨m',e1,_,e3⟩:=Bi hp h _ _ (hE j c.2.1) e;rw[e1];have:=FH n x' (j+1) false e3.2.1;rw[e3.1]at this;exact this
  ·rw[if_neg c,if_neg c];exact⟨rfl,rfl⟩
theorem Gf{T:Int}(hT:T<=200):∀(n:Nat) (x:ES) (j:Nat) (b:Bool),EI p inp k x->x.m.time<=T->(iq jm (stE p inp k F) (seE p inp k) E T n x j b).1.m=(iq MV.time (F inp) (gX p (cf p)) E T n x.m j b).1/\(iq jm (stE p inp k F) (seE p inp k) E T n x j b).2=(iq MV.time (F inp) (gX p (cf p)) E T n x.m j b).2
 |0,x,j,b,_,_=>⟨rfl,rfl⟩
 |n+1,x,j,b,h,ht=>by
  obtain⟨a1,a2,_⟩:=vo (wU hp hF Uk hi hE) (E.length+1) x j b h;obtain⟨b1,b2⟩:=FH hp hF Uk hi hE (E.length+1) x j b h;unfold iq;generalize eT MV.time (gX p (cf p)) E (E.length+1) x.m j b=Q at*;generalize eT jm (seE p inp k) E (E.length+1) x j b=R at*;obtain⟨R1,R2⟩:=R;obtain⟨Q1,Q2⟩:=Q;have b1:R1.m=Q1:=b1;have b2:R2=Q2:=b2;subst b1 b2;have a1:EI p inp k R1:=a1;have a2:R1.m.time=x.m.time:=a2;simp only;have et:jm R1=R1.m.time:=rfl;rw[et];by_cases c:R1.m.time=T
  ·rw[if_pos c,if_pos c];exact⟨rfl,rfl⟩
  rw[if_neg c,if_neg c];have P':=AD hp hF Uk hi a1 jB;have e2:jm (stE p inp k F R1)=(F inp R1.m).time:=by show(stE p inp k F R1).m.time=_;rw[P'.1]
  have e3:=((wU hp hF Uk hi (k:=k) hE).st R1 a1 (by show R1.m.time<200;omega)).2;rw[e2];by_cases d:(F inp R1.m).time=R1.m.time
  ·rw[if_pos d,if_pos d];exact⟨P'.1,rfl⟩
  ·rw[if_neg d,if_neg d];have:=Gf hT n (stE p inp k F R1) R2.1 R2.2 P'.2.1 (by
    show(stE p inp k F R1).m.time<=T;have e3:(stE p inp k F R1).m.time=R1.m.time\/(stE p inp k F R1).m.time=R1.m.time+1:=e3;omega)
   rw[P'.1]at this;exact this
theorem AX(Tn:fq p)(hl:E.length<=1000)(t:Int)(ht:cn t):∃k EE,cV prog 127 [.agg (ci p),aM eI 1 inp,aM bA 5 E,rI t] [] (.aP [.pt (hn 3 k) 0 0 0,rI (badM p F inp E t)]) EE/\cV prog 63 [.pt (hn 3 k) 0 0 0] EE (.agg (lj (shotM p F inp E t))) EE/\MI p (cf p) (runM p F inp E t).1/\Bd inp.length (runM p F inp E t).1:=by
 obtain⟨x0,Zd,Wy,hg,P',hc⟩:=RJ hp Tn hF Uk hi hE hl t ht;have e0:=xN hg P';have h0:x0.m.time<=dV t:=by unfold dV;omega
 have hT:dV t<=200:=by unfold dV;omega
 obtain⟨p1,p2⟩:=Gf hp hF Uk hi (k:=x0.N.k) hE hT ((dV t-jm x0).toNat+1) x0 0 false Zd h0;have UO:=(wI (wU hp hF Uk hi (k:=x0.N.k) hE) hT ((dV t-jm x0).toNat+1) x0 0 false Zd h0 (Nat.zero_le _)).1;have er:runM p F inp E t=iq MV.time (F inp) (gX p (cf p)) E (dV t) ((dV t-jm x0).toNat+1) x0.m 0 false:=by unfold runM;rw[e0];rfl
 have eb:nh E (dV t) (iq jm (stE p inp x0.N.k F) (seE p inp x0.N.k) E (dV t) ((dV t-jm x0).toNat+1) x0 0 false)=badM p F inp E t:=by unfold badM nh;rw[er,p2]
 rw[eb]at hc;rw[<-er]at p1;generalize iq jm (stE p inp x0.N.k F) (seE p inp x0.N.k) E (dV t) ((dV t-jm x0).toNat+1) x0 0 false=G at*;have hC:=qy hp.ok;have:=hC.len;have:=hC.oS;have:=hp.ok.ok.aa.av;have:=hp.ok.ok.size;have UW:=we (UO.R.vD UO.ok UO.sub) (zt UO.mi UO.bd jB);have WN:=UO.key;rw[show mP G.1.N=.pt (hn 3 x0.N.k) 0 0 0 by unfold mP;rw[WN]]at UW;refine⟨x0.N.k,G.1.E,⟨hc,⟨fun _ _ _=>rfl,List.nodup_nil,fun i r h=>by cases h⟩,UO.ok,fun i h=>(h rfl).elim,rfl⟩,?_,p1 ▸ UO.mi,p1 ▸ UO.bd⟩;unfold shotM;rw[<-p1];exact UW
end
section
variable (p:af)(F:TD->MV->MV)
noncomputable def atB(b:ay)(t:Int):kZ:=shotM p F b.aR (fp b) t
noncomputable def badB(b:ay):Int:=badM p F b.aR (fp b) 200
noncomputable def fineB(b:ay):ay×Int:=if badB p F b≠0 then(bZ,65)else(b,0)
noncomputable def forkB(ok:Bool)(b:ay)(nm:TF)(x:aD):ay×Int:=
 if ok=false\/sW x=false then(bZ,1)else if(atB p F b x.at_).time<x.at_ then(bZ,63)
 else if 8<=(eH (fp b) x.at_).length then(bZ,62)else fineB p F ⟨nm,b.aR,eH (fp b) x.at_,[x]⟩
noncomputable def inputB(ok:Bool)(b:ay)(nm:TF)(t n:Int):ay×Int:=
 if ok=false\/t<0\/200<t then(bZ,1)else if(atB p F b t).time<t then(bZ,63)
 else if 16<=(atB p F b t).in_ then(bZ,62)else(⟨nm,b.aR.take (atB p F b t).in_.toNat++[n],eH (fp b) t,[]⟩,0)
noncomputable def addB(b:ay)(x:aD):ay×Int:=
 if sW x=false then(bZ,1)else if 8<=b.base.length+b.own.length then(bZ,62)else fineB p F { b with own:=lI x b.own }
noncomputable def rebaseB(a jQ:ay):ay×Int×Int:=
 if 8<(fp jQ).length+a.own.length then(bZ,0,62)else if badB p F ⟨a.name,jQ.aR,fp jQ,a.own⟩≠0 then(bZ,badB p F ⟨a.name,jQ.aR,fp jQ,a.own⟩,65)else(⟨a.name,jQ.aR,fp jQ,a.own⟩,0,0)
end
def rE(b:ay)(n:Int):ay×Int:=if 16<=b.aR.length then(bZ,62)else({ b with aR:=b.aR++[n] },0)
section
variable {p:af}(hs:gk p){F:TD->MV->MV}(hF:bQ p (cf p) F){inp:TD}(hi:∀x∈inp,cn x){E:List aD}(hE:∀x∈E,cn x.v.n)
def S5{t:Int}(h0:0<=t)(h1:t<=200):dV t=t:=by unfold dV;omega
def xX(t:Int):0<=dV t/\dV t<=200:=by unfold dV;omega
def xq(h:∀x∈E,cn x.v.n):∀k,k<E.length->cn (nth E k).v.n:=fun k hk=>h _ (fh hk)
include hF hi hE
include hs
theorem xZ(t:Int):IM p inp (runM p F inp E t).1/\(runM p F inp E t).1.time<=dV t:=by obtain⟨a,b,_⟩:=Bm hs inp;obtain⟨c0,c1⟩:=xX t;have:=wI (Bn hF hi (xq hE)) c1 ((dV t-(m0V p).time).toNat+1) (m0V p) 0 false a jB (Nat.zero_le _);exact⟨this.1,this.2.2.1⟩
end
end Go.Proofs.YtjpcgmjaipfgdaaGreatDoor
/- Lemmas. No conditions. -/
import Derived.Test.YtjpcgmjaipfgdaaGreatDoorTwI
set_option linter.all false
set_option maxHeartbeats 4000000
set_option maxRecDepth 10000
namespace Go.Gd
open Go
structure OR(o:mO):Prop where
 k0:0<=o.kind
 k1:o.kind<256
 n:cn o.n
 v:cn o.v.n
end Go.Gd
namespace Go.Proofs.YtjpcgmjaipfgdaaGreatDoor
open Go Go.Gd Tryz Go.Gd.MV
def zF(p:af)(inp:TD)(m:MV):Option MV:=
 if m.status=2\/m.status=3 then some m
 else if(oP p (cf p) inp 50 m.dW).dG (cf p)then some (oP p (cf p) inp 50 m.dW).fv else none
def xM(p:af)(inp:TD)(E:List aD)(T:Int):Nat->MV->Nat->Bool->Option (MV×Nat×Bool)
 |0,m,k,b=>some (m,k,b)
 |n+1,m,k,b=>
  if(eT MV.time (gX p (cf p)) E (E.length+1) m k b).1.time=T then some (eT MV.time (gX p (cf p)) E (E.length+1) m k b)
  else match zF p inp (eT MV.time (gX p (cf p)) E (E.length+1) m k b).1 with
   |none=>none
   |some m'=>if m'.time=(eT MV.time (gX p (cf p)) E (E.length+1) m k b).1.time then some (m',(eT MV.time (gX p (cf p)) E (E.length+1) m k b).2)
    else xM p inp E T n m' (eT MV.time (gX p (cf p)) E (E.length+1) m k b).2.1 (eT MV.time (gX p (cf p)) E (E.length+1) m k b).2.2
def si(p:af)(inp:TD)(E:List aD)(t:Int):Option (MV×Nat×Bool):=
 if(oP p (cf p) [] 50 (lQ p (cf p))).dG (cf p)then xM p inp E (dV t) ((dV t-(oP p (cf p) [] 50 (lQ p (cf p))).time).toNat+1) (oP p (cf p) [] 50 (lQ p (cf p))) 0 false else none
section
variable {p:af}{F:TD->MV->MV}(hF:bQ p (cf p) F){inp:TD}(hi:∀x∈inp,cn x){E:List aD}(hE:∀k,k<E.length->cn (nth E k).v.n)
include hF hi
theorem MK{m m':MV}(h:IM p inp m)(e:zF p inp m=some m'):F inp m=m':=by
 unfold zF at e;split at e
 ·rename_i c;cases e;exact hF.still _ _ c
 rename_i c;split at e
 ·rename_i d;cases e;exact PL hF hi h.mi c 50 d
 ·cases e
include hE
theorem EO{T:Int}(hT:T<=200):∀(n:Nat) (m:MV) (k:Nat) (b:Bool) {r:MV×Nat×Bool},IM p inp m->m.time<=T->xM p inp E T n m k b=some r->iq MV.time (F inp) (gX p (cf p)) E T n m k b=r
 |0,m,k,b,r,_,_,e=>by cases e;rfl
 |n+1,m,k,b,r,h,ht,e=>by
  obtain⟨a1,a2,_⟩:=vo (Bn hF hi hE) (E.length+1) m k b h;unfold xM at e;unfold iq;generalize eT MV.time (gX p (cf p)) E (E.length+1) m k b=Q at*;by_cases c:Q.1.time=T
  ·rw[if_pos c]at e ⊢;cases e;rfl
  rw[if_neg c]at e ⊢;cases P':zF p inp Q.1 with
  |none=>rw[P']at e;cases e
  |some m'=>
   rw[P']at e;have hs:=MK hF hi a1 P';obtain⟨c1,c2⟩:=yO hF hi a1;rw[hs]at c1 c2 ⊢;simp only at e;by_cases d:m'.time=Q.1.time
   ·rw[if_pos d]at e ⊢;cases e;rfl
   ·rw[if_neg d]at e ⊢;exact EO hT n m' Q.2.1 Q.2.2 c1 (by rcases c2 with e|⟨e,_⟩<;>omega) e
theorem De(hs:gk p){t:Int}{r:MV×Nat×Bool}(e:si p inp E t=some r):runM p F inp E t=r:=by
 obtain⟨m1,⟨n,hg⟩,P',_⟩:=B5 hs (wT hs) [];unfold si at e;split at e
 ·rename_i c;have em:=Ik hg P' 50 c;have e0:=xN ⟨n,hg⟩ P';obtain⟨a,b,_⟩:=Bm hs inp;obtain⟨c0,c1⟩:=xX t;rw[em,<-e0]at e;unfold runM;exact EO hF hi hE c1 _ _ 0 false a jB e
 ·cases e
end
def uO:TF:=(⟨#[102,110,32,109,97,105,110,40,41,123,108,101,116,32,97,61,49,59,112,114,105,110,116,32,97,59,125]⟩:TF)
def eX:aD:=⟨1,(⟨#[97]⟩:TF),⟨1,5,⟨#[]⟩⟩⟩
def BK:(fY uO).2.2=0:=by decide +kernel
def KL:(si (fY uO).1 [] [] 1).map (fun r=>r.1.time)=some 1:=by decide +kernel
def SL:(si (fY uO).1 [] [eX] 200).map (fun r=>nh [eX] 200 r)=some 0:=by decide +kernel
def PY:(si (fY uO).1 [] [eX] 2).map (fun r=>r.1.bz)=some [(⟨#[53]⟩:TF)]:=by decide +kernel
def Lh:∃p x,fY uO=(p,x,0)/\mn p/\fq p/\∃r1 r2 r3,si p [] [] 1=some r1/\r1.1.time=1/\si p [] [eX] 200=some r2/\nh [eX] 200 r2=0/\si p [] [eX] 2=some r3/\r3.1.bz=[(⟨#[53]⟩:TF)]:=by obtain⟨r1,a1,b1⟩:=Option.map_eq_some_iff.1 KL;obtain⟨r2,a2,b2⟩:=Option.map_eq_some_iff.1 SL;obtain⟨r3,a3,b3⟩:=Option.map_eq_some_iff.1 PY;exact⟨_,_,by rw[<-BK],IG BK,GZ BK,r1,r2,r3,a1,b1,a2,b2,a3,b3⟩
def F0:aB prog 38 [] (rB true):=by
 obtain⟨p,x,e,hp,Tn,r1,r2,r3,a1,b1,a2,b2,a3,b3⟩:=Lh;have hs:=Eu uO jC;rw[e]at hs;obtain⟨F,hF⟩:=Gm hp.ok;have hi:∀x∈([]:TD),cn x:=fun x hx=>by cases hx
 have he0:∀k,k<([]:List aD).length->cn (nth ([]:List aD) k).v.n:=fun k hk=>by simp at hk
 have V3:∀k,k < [eX].length->cn (nth [eX] k).v.n:=fun k hk=>by
  have:k=0:=by simpa using hk
  subst this;exact⟨jC,jC⟩
 have q1:=De hF hi he0 hp.ok a1;have q2:=De hF hi V3 hp.ok a2;have Y7:=Jb;have TP:comesB p F (curB tz) 1=1:=by show(runM p F [] [] 1).1.time=1;rw[q1];exact b1
 have g1:goW p F tz 1=(⟨[⟨(⟨#[109,97,105,110]⟩:TF),[],[],[]⟩],0,1⟩,0):=by unfold goW;rw[TP,if_neg jC];rfl
 have hg:=wA hp Tn hF Y7 1 ⟨jC,jC⟩;have Zg:fy ⟨[⟨(⟨#[109,97,105,110]⟩:TF),[],[],[]⟩],0,1⟩:=⟨jC,jC,jC,Y7.b,⟨jC,jC⟩⟩;rw[g1]at hg;have hfk:forkB p F (iB (⟨#[98]⟩:TF)) (curB ⟨[⟨(⟨#[109,97,105,110]⟩:TF),[],[],[]⟩],0,1⟩) (⟨#[98]⟩:TF) ⟨1,(⟨#[97]⟩:TF),⟨1,5,⟨#[]⟩⟩⟩=(⟨(⟨#[98]⟩:TF),[],[],[eX]⟩,0):=by
  have h1:iB (⟨#[98]⟩:TF)=true:=jC;have h2:sW eX=true:=jC;have h3:(atB p F ⟨(⟨#[109,97,105,110]⟩:TF),[],[],[]⟩ 1).time=1:=by show(runM p F [] [] 1).1.time=1;rw[q1];exact b1
  have h4:badB p F ⟨(⟨#[98]⟩:TF),[],[],[eX]⟩=0:=by show nh [eX] (dV 200) (runM p F [] [eX] 200)=0;rw[q2];exact b2
  show forkB p F (iB (⟨#[98]⟩:TF)) ⟨(⟨#[109,97,105,110]⟩:TF),[],[],[]⟩ (⟨#[98]⟩:TF) eX=_;unfold forkB;rw[h1,h2,if_neg jC];show(if(atB p F ⟨(⟨#[109,97,105,110]⟩:TF),[],[],[]⟩ 1).time<1 then _ else _)=_;rw[h3,if_neg jC,if_neg jC];show fineB p F ⟨(⟨#[98]⟩:TF),[],[],[eX]⟩=_;unfold fineB;rw[h4,if_neg (fun h=>h rfl)]
 have hf:=Ga hp Tn hF Zg (⟨#[98]⟩:TF) (⟨#[97]⟩:TF) (v:=⟨1,5,⟨#[]⟩⟩) ⟨jC,jC⟩;have g2:forkW p F ⟨[⟨(⟨#[109,97,105,110]⟩:TF),[],[],[]⟩],0,1⟩ (⟨#[98]⟩:TF) (⟨#[97]⟩:TF) ⟨1,5,⟨#[]⟩⟩=(⟨[⟨(⟨#[109,97,105,110]⟩:TF),[],[],[]⟩,⟨(⟨#[98]⟩:TF),[],[],[eX]⟩],1,1⟩,0):=by have XY:dw (⟨#[98]⟩:TF) [⟨(⟨#[109,97,105,110]⟩:TF),[],[],[]⟩] 0=-1:=jC;unfold forkW pw;simp only;rw[hfk,XY];rfl
 rw[g2]at hf;have Z3:aB prog 40 [] (.agg (cS tz)):=C4;refine bM func38 ntmps38 ?_
 (repeat' (first|refine aq fun K hK=>?_|refine au ?_|(with_reducible refine gR 2 ?_);refine dC 2 ([],[],[15,16]) [6] (bc 0 9) mixed ?_|(refine hK _ _ ?_;clear hK K)|(refine ap ?_ ?_<;>intro hc<;>try exact jz)|refine bY 1 ?_|refine bY 4 ?_|refine bY 6 ?_|refine cp (hs) ?_|refine cN Z3 ?_|refine cN hg ?_|refine cp (hf) ?_|(refine bU ?_ ?_<;>intro hc<;>try exact jz)|refine ar ?_|exact jI|(clear hK K)))
 (refine aZ [.tmp 0] ?_;try simp only[go_sem])
end Go.Proofs.YtjpcgmjaipfgdaaGreatDoor
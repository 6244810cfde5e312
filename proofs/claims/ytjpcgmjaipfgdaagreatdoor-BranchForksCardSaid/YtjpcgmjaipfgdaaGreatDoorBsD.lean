/- Lemmas. No conditions. -/
import Derived.Test.YtjpcgmjaipfgdaaGreatDoorBqU
set_option linter.all false
set_option maxHeartbeats 4000000
set_option maxRecDepth 10000
namespace Go.Proofs.YtjpcgmjaipfgdaaGreatDoor
open Go Go.Gd Tryz Go.Gd.MV
def Ah(p:ab)(inp:UY)(m:MV):Option MV:=
 if m.status=2\/m.status=3 then some m
 else if(pL p (bQ p) inp 50 m.eu).dG (bQ p)then some (pL p (bQ p) inp 50 m.eu).fC else none
def yo(p:ab)(inp:UY)(E:List aw)(T:Int):Nat->MV->Nat->Bool->Option (MV×Nat×Bool)
 |0,m,k,b=>some (m,k,b)
 |n+1,m,k,b=>
  if(cL MV.time (fj p (bQ p)) E (E.length+1) m k b).1.time=T then some (cL MV.time (fj p (bQ p)) E (E.length+1) m k b)
  else match Ah p inp (cL MV.time (fj p (bQ p)) E (E.length+1) m k b).1 with
   |none=>none
   |some m'=>if m'.time=(cL MV.time (fj p (bQ p)) E (E.length+1) m k b).1.time then some (m',(cL MV.time (fj p (bQ p)) E (E.length+1) m k b).2)
    else yo p inp E T n m' (cL MV.time (fj p (bQ p)) E (E.length+1) m k b).2.1 (cL MV.time (fj p (bQ p)) E (E.length+1) m k b).2.2
def tX(p:ab)(inp:UY)(E:List aw)(t:Int):Option (MV×Nat×Bool):=
 if(pL p (bQ p) [] 50 (mh p (bQ p))).dG (bQ p)then yo p inp E (eQ t) ((eQ t-(pL p (bQ p) [] 50 (mh p (bQ p))).time).toNat+1) (pL p (bQ p) [] 50 (mh p (bQ p))) 0 false else none
section
variable {p:ab}{F:UY->MV->MV}(hF:cU p (bQ p) F){inp:UY}(hi:∀x∈inp,bz x){E:List aw}(hE:∀k,k<E.length->bz (nth E k).v.n)
include hF hi
theorem Nf{m m':MV}(h:IM p inp m)(e:Ah p inp m=some m'):F inp m=m':=by
 unfold Ah at e;split at e
 ·rename_i c;cases e;exact hF.still _ _ c
 rename_i c;split at e
 ·rename_i d;cases e;exact Uh hF hi h.mi c 50 d
 ·cases e
include hE
theorem Je{T:Int}(hT:T<=200):∀(n:Nat) (m:MV) (k:Nat) (b:Bool) {r:MV×Nat×Bool},IM p inp m->m.time<=T->yo p inp E T n m k b=some r->eN MV.time (F inp) (fj p (bQ p)) E T n m k b=r
 |0,m,k,b,r,_,_,e=>by cases e;rfl
 |n+1,m,k,b,r,h,ht,e=>by
  obtain⟨a1,a2,_⟩:=qU (uo hF hi hE) (E.length+1) m k b h;unfold yo at e;unfold eN;generalize cL MV.time (fj p (bQ p)) E (E.length+1) m k b=Q at*;by_cases c:Q.1.time=T
  ·rw[if_pos c]at e ⊢;cases e;rfl
  rw[if_neg c]at e ⊢;cases P':Ah p inp Q.1 with
  |none=>rw[P']at e;cases e
  |some m'=>
   rw[P']at e;have hs:=Nf hF hi a1 P';obtain⟨c1,c2⟩:=sP hF hi a1;rw[hs]at c1 c2 ⊢;simp only at e;by_cases d:m'.time=Q.1.time
   ·rw[if_pos d]at e ⊢;cases e;rfl
   ·rw[if_neg d]at e ⊢;exact Je hT n m' Q.2.1 Q.2.2 c1 (by rcases c2 with e|⟨e,_⟩<;>omega) e
theorem Bi(hs:fO p){t:Int}{r:MV×Nat×Bool}(e:tX p inp E t=some r):runM p F inp E t=r:=by
 obtain⟨m1,⟨n,hg⟩,P',_⟩:=BM hs (wY hs) [];unfold tX at e;split at e
 ·rename_i c;have em:=Ea hg P' 50 c;have e0:=zv ⟨n,hg⟩ P';obtain⟨a,b,_⟩:=xd hs inp;obtain⟨c0,c1⟩:=Bq t;rw[em,<-e0]at e;unfold runM;exact Je hF hi hE c1 _ _ 0 false a jB e
 ·cases e
end
def wx:U0:=(⟨#[102,110,32,109,97,105,110,40,41,123,108,101,116,32,97,61,49,59,112,114,105,110,116,32,97,59,125]⟩:U0)
def eX:aw:=⟨1,(⟨#[97]⟩:U0),⟨1,5,⟨#[]⟩⟩⟩
def CY:(ga wx).2.2=0:=by decide +kernel
def R5:(tX (ga wx).1 [] [] 1).map (fun r=>r.1.time)=some 1:=by decide +kernel
def Le:(tX (ga wx).1 [] [eX] 200).map (fun r=>nt [eX] 200 r)=some 0:=by decide +kernel
def Qq:(tX (ga wx).1 [] [eX] 2).map (fun r=>r.1.aZ)=some [(⟨#[53]⟩:U0)]:=by decide +kernel
def Ow:∃p x,ga wx=(p,x,0)/\po p/\gG p/\∃r1 r2 r3,tX p [] [] 1=some r1/\r1.1.time=1/\tX p [] [eX] 200=some r2/\nt [eX] 200 r2=0/\tX p [] [eX] 2=some r3/\r3.1.aZ=[(⟨#[53]⟩:U0)]:=by obtain⟨r1,a1,b1⟩:=Option.map_eq_some_iff.1 R5;obtain⟨r2,a2,b2⟩:=Option.map_eq_some_iff.1 Le;obtain⟨r3,a3,b3⟩:=Option.map_eq_some_iff.1 Qq;exact⟨_,_,by rw[<-CY],yl CY,y5 CY,r1,r2,r3,a1,b1,a2,b2,a3,b3⟩
def oU:aD prog 19 [] (rB true):=by
 obtain⟨p,x,e,hp,Vy,r1,r2,r3,a1,b1,a2,b2,a3,b3⟩:=Ow;have hs:=AF wx jC;rw[e]at hs;obtain⟨F,hF⟩:=yC hp.ok;have hi:∀x∈([]:UY),bz x:=fun x hx=>by cases hx
 have he0:∀k,k<([]:List aw).length->bz (nth ([]:List aw) k).v.n:=fun k hk=>by simp at hk
 have XG:∀k,k < [eX].length->bz (nth [eX] k).v.n:=fun k hk=>by
  have:k=0:=by simpa using hk
  subst this;exact⟨jC,jC⟩
 have q1:=Bi hF hi he0 hp.ok a1;have q2:=Bi hF hi XG hp.ok a2;have q3:=Bi hF hi XG hp.ok a3;have hbz:gj bZ:=⟨jC,jC,jC,fun x hx=>(by cases hx),fun x hx=>(by cases hx),fun x hx=>(by cases hx)⟩;have WD:gj ⟨(⟨#[98]⟩:U0),[],[],[eX]⟩:=⟨jC,jC,jC,fun x hx=>(by cases hx),fun x hx=>(by cases hx),fun x hx=>by rw[List.mem_singleton.1 hx];exact⟨jC,jC⟩⟩;have Xf:forkB p F (nP (⟨#[98]⟩:U0)) bZ (⟨#[98]⟩:U0) eX=(⟨(⟨#[98]⟩:U0),[],[],[eX]⟩,0):=by
  have h1:nP (⟨#[98]⟩:U0)=true:=jC;have h2:oi eX=true:=jC;have h3:(atB p F bZ 1).time=1:=by show(runM p F [] [] 1).1.time=1;rw[q1];exact b1
  have h4:badB p F ⟨(⟨#[98]⟩:U0),[],[],[eX]⟩=0:=by show nt [eX] (eQ 200) (runM p F [] [eX] 200)=0;rw[q2];exact b2
  unfold forkB;rw[h1,h2,if_neg jC];show(if(atB p F bZ 1).time<1 then _ else _)=_;rw[h3,if_neg jC,if_neg jC];show fineB p F ⟨(⟨#[98]⟩:U0),[],[],[eX]⟩=_;unfold fineB;rw[h4,if_neg (fun h=>h rfl)]
 have hf:=A6 hp Vy hF hbz (⟨#[98]⟩:U0) (x:=eX) ⟨jC,jC⟩ ⟨jC,jC⟩;rw[Xf]at hf;have hf:=sC (args':=[_,.agg [.raw (.string ⟨#[]⟩),.raw (.slice none 0 0),.raw (.slice none 0 0),.raw (.slice none 0 0)],_,_]) hf ⟨.refl _,AN (ds:=cr bZ) ⟨.refl _,.nil _ _,.nil _ _,.nil _ _,trivial⟩,.refl _,.refl _,trivial⟩;obtain⟨hv,_⟩:=qD hp Vy hF WD 2 ⟨jC,jC⟩;have ho:(gy p (atB p F ⟨(⟨#[98]⟩:U0),[],[],[eX]⟩ 2)).aZ=[(⟨#[53]⟩:U0)]:=by show(runM p F [] [eX] 2).1.aZ=_;rw[q3];exact b3
 generalize gy p (atB p F ⟨(⟨#[98]⟩:U0),[],[],[eX]⟩ 2)=V at*;obtain⟨v1,v2,v3,v4,v5⟩:=V;have ho:v2=[(⟨#[53]⟩:U0)]:=ho;subst ho;refine cB func19 ntmps19 ?_
 (repeat' (first|refine ar fun K hK=>?_|refine av ?_|(refine hK _ _ ?_;clear hK K)|(refine au ?_ ?_<;>intro hc<;>try exact jz)|refine cC 1 ?_|refine cC 4 ?_|refine cC 6 ?_|refine cp (hs) ?_|refine cp (hf) ?_|refine cp (hv) ?_|(refine gh ?_ ?_<;>intro hc<;>try exact jz)|refine aq ?_|exact jI|(clear hK K)))
 (refine bq [.tmp 0] ?_;try simp only[go_sem])
end Go.Proofs.YtjpcgmjaipfgdaaGreatDoor
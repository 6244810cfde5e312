/- Lemmas. No conditions. -/
import Derived.Test.YtjpcgmjaipfgdaaGreatDoorTwU
set_option linter.all false
set_option maxHeartbeats 8000000
set_option maxRecDepth 10000
namespace Go.Gd
open Go
variable{l:List ak}
def zR{b:ak}{k:Nat}(hk:k<l.length+1):nth (l++[b]) k=if k<l.length then nth l k else b:=by
 unfold nth;rw[List.getD_eq_getElem?_getD,List.getD_eq_getElem?_getD];by_cases c:k<l.length
 ·rw[if_pos c,List.getElem?_append_left c]
 ·rw[if_neg c,List.getElem?_append_right jB,show k-l.length=0 from jB];rfl
variable{nm:TI}
def AM(h:¬di nm l 0<0):∃n:Nat,n<l.length/\di nm l 0=n/\(nth l n).name=nm:=by
 rcases nZ nm l 0 with⟨e,_⟩|⟨j,h1,h2,h3,_⟩
 ·omega
 ·exact⟨j,h1,jB,h3⟩
def Im(h:di nm l 0<0):∀j,j<l.length->(nth l j).name≠nm:=by
 rcases nZ nm l 0 with⟨_,h⟩|⟨j,h1,h2,h3,_⟩
 ·exact h
 ·omega
structure OR(o:lU):Prop where
 k0:0<=o.kind
 k1:o.kind<256
 n:cf o.n
 v:cf o.v.n
end Go.Gd
namespace Go.Proofs.YtjpcgmjaipfgdaaGreatDoor
open Go Go.Gd Tryz Go.Gd.MV
def xO(p:af)(inp:TG)(m:MV):Option MV:=
 if m.status=2\/m.status=3 then some m
 else if(pc p (ci p) inp 50 m.dX).dw (ci p)then some (pc p (ci p) inp 50 m.dX).fz else none
def y8(p:af)(inp:TG)(E:List aD)(T:Int):Nat->MV->Nat->Bool->Option (MV×Nat×Bool)
 |0,m,k,b=>some (m,k,b)
 |n+1,m,k,b=>
  if(eW MV.time (iy p (ci p)) E (E.length+1) m k b).1.time=T then some (eW MV.time (iy p (ci p)) E (E.length+1) m k b)
  else match xO p inp (eW MV.time (iy p (ci p)) E (E.length+1) m k b).1 with
   |none=>none
   |some m'=>if m'.time=(eW MV.time (iy p (ci p)) E (E.length+1) m k b).1.time then some (m',(eW MV.time (iy p (ci p)) E (E.length+1) m k b).2)
    else y8 p inp E T n m' (eW MV.time (iy p (ci p)) E (E.length+1) m k b).2.1 (eW MV.time (iy p (ci p)) E (E.length+1) m k b).2.2
def tc(p:af)(inp:TG)(E:List aD)(t:Int):Option (MV×Nat×Bool):=
 if(pc p (ci p) [] 50 (lW p (ci p))).dw (ci p)then y8 p inp E (eD t) ((eD t-(pc p (ci p) [] 50 (lW p (ci p))).time).toNat+1) (pc p (ci p) [] 50 (lW p (ci p))) 0 false else none
section
variable {p:af}{F:TG->MV->MV}(hF:bQ p (ci p) F){inp:TG}(hi:∀x∈inp,cf x){E:List aD}(hE:∀k,k<E.length->cf (nth E k).v.n)
include hF hi
theorem QQ{m m':MV}(h:IM p inp m)(e:xO p inp m=some m'):F inp m=m':=by
 unfold xO at e;split at e
 ·rename_i c;cases e;exact hF.still _ _ c
 rename_i c;split at e
 ·rename_i d;cases e;exact Q8 hF hi h.mi c 50 d
 ·cases e
include hE
theorem G5{T:Int}(hT:T<=200):∀(n:Nat) (m:MV) (k:Nat) (b:Bool) {r:MV×Nat×Bool},IM p inp m->m.time<=T->y8 p inp E T n m k b=some r->iQ MV.time (F inp) (iy p (ci p)) E T n m k b=r
 |0,m,k,b,r,_,_,e=>by cases e;rfl
 |n+1,m,k,b,r,h,ht,e=>by
  obtain⟨a1,a2,_⟩:=xN (DU hF hi hE) (E.length+1) m k b h;unfold y8 at e;unfold iQ;generalize eW MV.time (iy p (ci p)) E (E.length+1) m k b=Q at*;by_cases c:Q.1.time=T
  ·rw[if_pos c]at e ⊢;cases e;rfl
  rw[if_neg c]at e ⊢;cases P':xO p inp Q.1 with
  |none=>rw[P']at e;cases e
  |some m'=>
   rw[P']at e;have hs:=QQ hF hi a1 P';obtain⟨c1,c2⟩:=Bp hF hi a1;rw[hs]at c1 c2 ⊢;simp only at e;by_cases d:m'.time=Q.1.time
   ·rw[if_pos d]at e ⊢;cases e;rfl
   ·rw[if_neg d]at e ⊢;exact G5 hT n m' Q.2.1 Q.2.2 c1 (by rcases c2 with e|⟨e,_⟩<;>omega) e
theorem EJ(hs:gj p){t:Int}{r:MV×Nat×Bool}(e:tc p inp E t=some r):runM p F inp E t=r:=by
 obtain⟨m1,⟨n,hg⟩,P',_⟩:=Am hs (wP hs) [];unfold tc at e;split at e
 ·rename_i c;have em:=HG hg P' 50 c;have e0:=yV ⟨n,hg⟩ P';obtain⟨a,b,_⟩:=DW hs inp;obtain⟨c0,c1⟩:=AE t;rw[em,<-e0]at e;unfold runM;exact G5 hF hi hE c1 _ _ 0 false a jB e
 ·cases e
end
def wb:TI:=(⟨#[102,110,32,109,97,105,110,40,41,123,108,101,116,32,97,61,49,59,112,114,105,110,116,32,97,59,125]⟩:TI)
def eX:aD:=⟨1,(⟨#[97]⟩:TI),⟨1,5,⟨#[]⟩⟩⟩
def Cx:(fX wb).2.2=0:=by decide +kernel
def RX:(tc (fX wb).1 [] [] 1).map (fun r=>r.1.time)=some 1:=by decide +kernel
def RO:(tc (fX wb).1 [] [eX] 200).map (fun r=>na [eX] 200 r)=some 0:=by decide +kernel
def Qn:(tc (fX wb).1 [] [eX] 2).map (fun r=>r.1.bA)=some [(⟨#[53]⟩:TI)]:=by decide +kernel
def Na:∃p x,fX wb=(p,x,0)/\mA p/\fu p/\∃r1 r2 r3,tc p [] [] 1=some r1/\r1.1.time=1/\tc p [] [eX] 200=some r2/\na [eX] 200 r2=0/\tc p [] [eX] 2=some r3/\r3.1.bA=[(⟨#[53]⟩:TI)]:=by obtain⟨r1,a1,b1⟩:=Option.map_eq_some_iff.1 RX;obtain⟨r2,a2,b2⟩:=Option.map_eq_some_iff.1 RO;obtain⟨r3,a3,b3⟩:=Option.map_eq_some_iff.1 Qn;exact⟨_,_,by rw[<-Cx],IT Cx,Jw Cx,r1,r2,r3,a1,b1,a2,b2,a3,b3⟩
def HT:aB prog 38 [] (rB true):=by
 obtain⟨p,x,e,hp,T0,r1,r2,r3,a1,b1,a2,b2,a3,b3⟩:=Na;have hs:=H6 wb jC;rw[e]at hs;obtain⟨F,hF⟩:=Dm hp.ok;have hi:∀x∈([]:TG),cf x:=fun x hx=>by cases hx
 have he0:∀k,k<([]:List aD).length->cf (nth ([]:List aD) k).v.n:=fun k hk=>by simp at hk
 have Wn:∀k,k < [eX].length->cf (nth [eX] k).v.n:=fun k hk=>by
  have:k=0:=by simpa using hk
  subst this;exact⟨jC,jC⟩
 have q1:=EJ hF hi he0 hp.ok a1;have q2:=EJ hF hi Wn hp.ok a2;have Zu:=IH;have T9:comesB p F (curB tS) 1=1:=by show(runM p F [] [] 1).1.time=1;rw[q1];exact b1
 have g1:goW p F tS 1=(⟨[⟨(⟨#[109,97,105,110]⟩:TI),[],[],[]⟩],0,1⟩,0):=by unfold goW;rw[T9,if_neg jC];rfl
 have hg:=EW hp T0 hF Zu 1 ⟨jC,jC⟩;have ZE:fp ⟨[⟨(⟨#[109,97,105,110]⟩:TI),[],[],[]⟩],0,1⟩:=⟨jC,jC,jC,Zu.b,⟨jC,jC⟩⟩;rw[g1]at hg;have hfk:forkB p F (io (⟨#[98]⟩:TI)) (curB ⟨[⟨(⟨#[109,97,105,110]⟩:TI),[],[],[]⟩],0,1⟩) (⟨#[98]⟩:TI) ⟨1,(⟨#[97]⟩:TI),⟨1,5,⟨#[]⟩⟩⟩=(⟨(⟨#[98]⟩:TI),[],[],[eX]⟩,0):=by
  have h1:io (⟨#[98]⟩:TI)=true:=jC;have h2:nH eX=true:=jC;have h3:(atB p F ⟨(⟨#[109,97,105,110]⟩:TI),[],[],[]⟩ 1).time=1:=by show(runM p F [] [] 1).1.time=1;rw[q1];exact b1
  have h4:badB p F ⟨(⟨#[98]⟩:TI),[],[],[eX]⟩=0:=by show na [eX] (eD 200) (runM p F [] [eX] 200)=0;rw[q2];exact b2
  show forkB p F (io (⟨#[98]⟩:TI)) ⟨(⟨#[109,97,105,110]⟩:TI),[],[],[]⟩ (⟨#[98]⟩:TI) eX=_;unfold forkB;rw[h1,h2,if_neg jC];show(if(atB p F ⟨(⟨#[109,97,105,110]⟩:TI),[],[],[]⟩ 1).time<1 then _ else _)=_;rw[h3,if_neg jC,if_neg jC];show fineB p F ⟨(⟨#[98]⟩:TI),[],[],[eX]⟩=_;unfold fineB;rw[h4,if_neg (fun h=>h rfl)]
 have hf:=Ek hp T0 hF ZE (⟨#[98]⟩:TI) (⟨#[97]⟩:TI) (v:=⟨1,5,⟨#[]⟩⟩) ⟨jC,jC⟩;have g2:forkW p F ⟨[⟨(⟨#[109,97,105,110]⟩:TI),[],[],[]⟩],0,1⟩ (⟨#[98]⟩:TI) (⟨#[97]⟩:TI) ⟨1,5,⟨#[]⟩⟩=(⟨[⟨(⟨#[109,97,105,110]⟩:TI),[],[],[]⟩,⟨(⟨#[98]⟩:TI),[],[],[eX]⟩],1,1⟩,0):=by have Yf:di (⟨#[98]⟩:TI) [⟨(⟨#[109,97,105,110]⟩:TI),[],[],[]⟩] 0=-1:=jC;unfold forkW nT;simp only;rw[hfk,Yf];rfl
 rw[g2]at hf;have ZA:aB prog 40 [] (.agg (cS tS)):=Hx;refine bG func38 ntmps38 ?_
 (repeat' (first|refine aq fun K hK=>?_|refine ap ?_|(with_reducible refine gR 2 ?_);refine dC 2 ([],[],[15,16]) [6] (aW 0 9) mixed ?_|(refine hK _ _ ?_;clear hK K)|(refine ao ?_ ?_<;>intro hc<;>try exact jz)|refine cH 1 ?_|refine cH 4 ?_|refine cH 6 ?_|refine cp (hs) ?_|refine cN ZA ?_|refine cN hg ?_|refine cp (hf) ?_|(refine bF ?_ ?_<;>intro hc<;>try exact jz)|refine ar ?_|exact jI|(clear hK K)))
 (refine aY [.tmp 0] ?_;try simp only[go_sem])
def UN(l:List ak):Prop:=∀i j,i<l.length->j<l.length->(nth l i).name=(nth l j).name->i=j
variable{l:List ak}
def UN.find(h:UN l){j:Nat}(hj:j<l.length):di (nth l j).name l 0=(j:Int):=Ei hj rfl fun i hi e=>by have:=h i j jB hj e;omega
theorem UN.set{l:List ak}(h:UN l){n:Nat}{b:ak}(hu:∀j,j<l.length->j≠n->(nth l j).name≠b.name):UN (l.set n b):=fun i j hi hj e=>by
 have hi:i<l.length:=by simpa using hi
 have hj:j<l.length:=by simpa using hj
 rw[rR hi,rR hj]at e;by_cases c:n=i<;>by_cases d:n=j
 ·omega
 ·rw[if_pos c,if_neg d]at e;exact(hu j hj (fun h=>d h.symm) e.symm).elim
 ·rw[if_neg c,if_pos d]at e;exact(hu i hi (fun h=>c h.symm) e).elim
 ·rw[if_neg c,if_neg d]at e;exact h i j hi hj e
def UN.app(h:UN l){b:ak}(hu:∀j,j<l.length->(nth l j).name≠b.name):UN (l++[b]):=fun i j hi hj e=>by
 have hi:i<l.length+1:=by simpa using hi
 have hj:j<l.length+1:=by simpa using hj
 rw[zR hi,zR hj]at e;by_cases c:i<l.length<;>by_cases d:j<l.length
 ·rw[if_pos c,if_pos d]at e;exact h i j c d e
 ·rw[if_pos c,if_neg d]at e;exact(hu i c e).elim
 ·rw[if_neg c,if_pos d]at e;exact(hu j d e.symm).elim
 ·omega
def UN.erase(h:UN l){n:Nat}(hn:n<l.length):UN (jT l n):=fun i j hi hj e=>by
 rw[vE hn hi,vE hn hj]at e;rw[rF hn]at hi hj;by_cases c:i<n<;>by_cases d:j<n
 ·rw[if_pos c,if_pos d]at e;exact h i j jB jB e
 ·rw[if_pos c,if_neg d]at e;have:=h i (j+1) jB jB e;omega
 ·rw[if_neg c,if_pos d]at e;have:=h (i+1) j jB jB e;omega
 ·rw[if_neg c,if_neg d]at e;have:=h (i+1) (j+1) jB jB e;omega
structure BI(p:af)(F:List Int->MV->MV)(b:ak):Prop where
 w:BW b
 s:AI b.base
 so:AI b.own
 nm:io b.name=true
 mb:∀x∈b.base,nH x=true
 mo:∀x∈b.own,nH x=true
 bad:badB p F b=0
section
variable {p:af}{F:TG->MV->MV}{b:ak}
variable{nm:TI}
def Np{ok:Bool}{x:aD}(e:(forkB p F ok b nm x).2=0):(forkB p F ok b nm x).1=⟨nm,b.aC,dT (eT b) x.at_,[x]⟩/\(dT (eT b) x.at_).length<8/\ok=true/\nH x=true/\badB p F ⟨nm,b.aC,dT (eT b) x.at_,[x]⟩=0:=by
 unfold forkB at e ⊢;split at e
 ·cases e
 rename_i c1;split at e
 ·cases e
 split at e
 ·cases e
 unfold fineB at e ⊢;split at e
 ·cases e
 rename_i c2 c3 c4;rw[if_neg c1,if_neg c2,if_neg c3,if_neg c4];refine⟨rfl,jB,?_,?_,Classical.not_not.1 c4⟩
 ·cases ok
  ·exact(c1 (.inl rfl)).elim
  ·rfl
 ·cases hm:nH x
  ·exact(c1 (.inr hm)).elim
  ·rfl
def Qg{ok:Bool}{t n:Int}(e:(inputB p F ok b nm t n).2=0):(inputB p F ok b nm t n).1=⟨nm,b.aC.take (atB p F b t).in_.toNat++[n],dT (eT b) t,[]⟩/\(atB p F b t).in_<16/\ok=true/\0<=t/\t<=200/\¬(atB p F b t).time<t:=by
 unfold inputB at e ⊢;split at e
 ·cases e
 rename_i c1;split at e
 ·cases e
 split at e
 ·cases e
 rename_i c2 c3;rw[if_neg c1,if_neg c2,if_neg c3];refine⟨rfl,jB,?_,jB,jB,c2⟩;cases ok
 ·exact(c1 (.inl rfl)).elim
 ·rfl
def Nr{x:aD}(e:(addB p F b x).2=0):(addB p F b x).1={ b with own:=kJ x b.own }/\b.base.length+b.own.length<8/\nH x=true/\badB p F { b with own:=kJ x b.own }=0:=by
 unfold addB at e ⊢;split at e
 ·cases e
 rename_i c1;split at e
 ·cases e
 unfold fineB at e ⊢;split at e
 ·cases e
 rename_i c2 c3;rw[if_neg c1,if_neg c2,if_neg c3];refine⟨rfl,jB,?_,Classical.not_not.1 c3⟩;cases hm:nH x
 ·exact(c1 hm).elim
 ·rfl
def Tk{n:Int}(e:(pd b n).2=0):(pd b n).1={ b with aC:=b.aC++[n] }/\b.aC.length<16:=by
 unfold pd at e ⊢;split at e
 ·cases e
 rename_i c1;rw[if_neg c1];exact⟨rfl,jB⟩
def JG{a o:ak}(e:(rebaseB p F a o).2.2=0):(rebaseB p F a o).1=⟨a.name,o.aC,eT o,a.own⟩/\(eT o).length+a.own.length<=8/\badB p F ⟨a.name,o.aC,eT o,a.own⟩=0:=by
 unfold rebaseB at e ⊢;split at e
 ·cases e
 rename_i c1;split at e
 ·cases e
 rename_i c2;rw[if_neg c1,if_neg c2];exact⟨rfl,jB,Classical.not_not.1 c2⟩
end
structure j6(w x:aV)(k:Int)(nm:ByteArray)(f:Int):Prop where
 un:UN x.l
 len:(x.l.length:Int)=w.l.length+(if f=0/\(k=2\/k=3)then 1 else 0)-(if f=0/\k=7 then 1 else 0)
 gone:∀j,j<w.l.length->(nth w.l j).name=nm->k=6\/k=7->f=0->di (nth w.l j).name x.l 0=-1
 stay:∀j,j<w.l.length->¬((nth w.l j).name=nm/\(k=6\/k=7)/\f=0)->∃a:Nat,a<x.l.length/\di (nth w.l j).name x.l 0=a/\(nth x.l a=nth w.l j\/f=0/\((nth w.l j).name=nm/\k=8\/(j:Int)=w.cur/\(k=4\/k=5)))
variable{nm:TI}
def JR{w x:aV}{k f:Int}(P:j6 w x k nm f):(f=0/\k=2/\k=2/\k=2/\(x.l.length:Int)=w.l.length+1)\/(f=0/\k=3/\k=3/\k=3/\(x.l.length:Int)=w.l.length+1)\/(f=0/\k=7/\k=7/\k=7/\(x.l.length:Int)=w.l.length-1)\/(f=0/\¬k=2/\¬k=3/\¬k=7/\(x.l.length:Int)=w.l.length)\/(¬f=0/\¬f=0/\¬f=0/\¬f=0/\(x.l.length:Int)=w.l.length):=by
 have h:=P.len;by_cases c:f=0
 ·by_cases c2:k=2
  ·rw[if_pos ⟨c,.inl c2⟩,jN]at h;exact .inl ⟨c,c2,c2,c2,jB⟩
  by_cases c3:k=3
  ·rw[if_pos ⟨c,.inr c3⟩,jN]at h;exact .inr (.inl ⟨c,c3,c3,c3,jB⟩)
  by_cases c7:k=7
  ·rw[jN,if_pos ⟨c,c7⟩]at h;exact .inr (.inr (.inl ⟨c,c7,c7,c7,jB⟩))
  ·rw[jN,jN]at h;exact .inr (.inr (.inr (.inl ⟨c,c2,c3,c7,jB⟩)))
 ·rw[jN,jN]at h;exact .inr (.inr (.inr (.inr ⟨c,c,c,c,jB⟩)))
def S6{w x:aV}{k f:Int}(P:j6 w x k nm f)(hk:k<=8){j:Nat}(hj:j<w.l.length) :
  ((k >= 6/\¬k=8/\f=0)/\((nth w.l j).name=nm)=True/\(k >= 6)=True/\(k=8)=False/\(f=0)=True)/\di (nth w.l j).name x.l 0=-1\/
  ∃a:Nat,a<x.l.length/\di (nth w.l j).name x.l 0=a/\
   (nth x.l a=nth w.l j/\(((¬f=0)/\(f=0)=False)\/((f=0/\¬k >= 6)/\(k >= 6)=False)\/((f=0/\k=8)/\(k >= 6)=True/\(k=8)=True)\/((f=0/\k >= 6/\¬k=8)/\((nth w.l j).name=nm)=False))\/
   (((f=0/\k=8)/\((nth w.l j).name=nm)=True/\(k >= 6)=True/\(k=8)=True/\(f=0)=True)\/((f=0/\k=4)/\(k >= 6)=False/\((j:Int)=w.cur)=True/\(f=0)=True/\(k=4)=True)\/((f=0/\k=5)/\(k >= 6)=False/\((j:Int)=w.cur)=True/\(f=0)=True/\(k=4)=False/\(k=5)=True))):=by
 by_cases g:(nth w.l j).name=nm/\(k=6\/k=7)/\f=0
 ·exact .inl ⟨⟨by omega,eq_true g.1,eq_true (by omega),eq_false (by omega),eq_true g.2.2⟩,P.gone j hj g.1 g.2.1 g.2.2⟩
 obtain⟨a,h1,h2,h3⟩:=P.stay j hj g;refine .inr ⟨a,h1,h2,?_⟩;rcases h3 with h3|⟨h3,⟨h4,h5⟩|⟨h4,h5⟩⟩
 ·refine .inl ⟨h3,?_⟩;by_cases c:f=0
  ·by_cases d:k >= 6
   ·by_cases e:k=8
    ·exact .inr (.inr (.inl ⟨⟨c,e⟩,eq_true d,eq_true e⟩))
    ·exact .inr (.inr (.inr ⟨⟨c,d,e⟩,eq_false fun h=>g ⟨h,jB,c⟩⟩))
   ·exact .inr (.inl ⟨⟨c,d⟩,eq_false d⟩)
  ·exact .inl ⟨c,eq_false c⟩
 ·exact .inr (.inl ⟨⟨h3,h5⟩,eq_true h4,eq_true jB,eq_true h5,eq_true h3⟩)
 ·refine .inr (.inr ?_);rcases h5 with h5|h5
  ·exact .inl ⟨⟨h3,h5⟩,eq_false jB,eq_true h4,eq_true h3,eq_true h5⟩
  ·exact .inr ⟨⟨h3,h5⟩,eq_false jB,eq_true h4,eq_true h3,eq_false jB,eq_true h5⟩
section
variable {w x:aV}{k f:Int}{nm:TI}(hu:UN w.l)
include hu
theorem np(e:x.l=w.l)(hk:f=0->k≠2/\k≠3/\k≠6/\k≠7):j6 w x k nm f:=by
 refine⟨e ▸ hu,?_,fun j _ _ h1 h2=>?_,fun j hj _=>⟨j,by rw[e];exact hj,by rw[e];exact hu.find hj,.inl (by rw[e])⟩⟩
 ·rw[e,if_neg (fun h=>by have:=hk h.1;omega),if_neg (fun h=>by have:=hk h.1;omega)];omega
 ·have:=hk h2;omega
theorem Ot{b:ak}(e:x.l=w.l++[b])(hf:f=0)(hk:k=2\/k=3)(hn:∀j,j<w.l.length->(nth w.l j).name≠b.name):j6 w x k nm f:=by
 have I':x.l.length=w.l.length+1:=by rw[e];simp
 refine⟨by rw[e];exact hu.app hn,?_,fun j _ _ h1 h2=>jB,fun j hj _=>⟨j,jB,?_,.inl ?_⟩⟩
 ·rw[if_pos ⟨hf,hk⟩,jN];omega
 ·have X5:=hu.app hn;have:=X5.find (j:=j) jF;rw[zR jB,if_pos hj]at this;rw[e];exact this
 ·rw[e,zR jB,if_pos hj]
variable{n:Nat}
theorem Fi{b:ak}(e:x.l=w.l.set n b)(hb:b.name=(nth w.l n).name)(hn:n<w.l.length)(hf:f=0)(hk:k=8/\(nth w.l n).name=nm\/(k=4\/k=5)/\w.cur=n):j6 w x k nm f:=by
 have I':x.l.length=w.l.length:=by rw[e,List.length_set]
 have UK:∀j,j<w.l.length->j≠n->(nth w.l j).name≠b.name:=fun j hj c h=>c (hu j n hj hn (h.trans hb))
 refine⟨by rw[e];exact hu.set UK,?_,fun j _ _ h1 h2=>jB,fun j hj _=>⟨j,jB,?_,?_⟩⟩
 ·rw[jN,jN];omega
 ·have X5:=(hu.set UK).find (j:=j) (by rw[List.length_set];exact hj);rw[rR hj]at X5;rw[e];by_cases c:n=j
  ·subst c;rw[if_pos rfl,hb]at X5;exact X5
  ·rw[if_neg c]at X5;exact X5
 ·rw[e,rR hj];by_cases c:n=j
  ·subst c;exact .inr ⟨hf,hk.imp (fun h=>⟨h.2,h.1⟩) fun h=>⟨h.2.symm,h.1⟩⟩
  ·rw[if_neg c];exact .inl rfl
theorem OM{b:ak}(e:x.l=w.l.set n b)(hb:∀j,j<w.l.length->(nth w.l j).name≠b.name)(hn:n<w.l.length)(hf:f=0)(hk:k=6)(TV:(nth w.l n).name=nm):j6 w x k nm f:=by
 have I':x.l.length=w.l.length:=by rw[e,List.length_set]
 refine⟨by rw[e];exact hu.set fun j hj _=>hb j hj,?_,fun j hj h1 h2 h3=>?_,fun j hj h1=>⟨j,jB,?_,.inl ?_⟩⟩
 ·rw[jN,jN];omega
 ·rw[e];have:j=n:=hu j n hj hn (h1.trans TV.symm);subst this;refine BD fun i hi=>?_
  have hi:i<w.l.length:=by simpa using hi
  rw[rR hi];by_cases c:j=i
  ·rw[if_pos c];exact fun h=>hb j hj h.symm
  ·rw[if_neg c];exact fun h=>c (hu i j hi hj h).symm
 ·have c:¬n=j:=fun c=>h1 ⟨c ▸ TV,.inl hk,hf⟩
  have X5:=(hu.set (n:=n) (b:=b) fun i hi _=>hb i hi).find (j:=j) (by rw[List.length_set];exact hj);rw[rR hj,if_neg c]at X5;rw[e];exact X5
 ·have c:¬n=j:=fun c=>h1 ⟨c ▸ TV,.inl hk,hf⟩
  rw[e,rR hj,if_neg c]
theorem Pg(e:x.l=jT w.l n)(hn:n<w.l.length)(hf:f=0)(hk:k=7)(TV:(nth w.l n).name=nm):j6 w x k nm f:=by
 have I':x.l.length=w.l.length-1:=by rw[e,rF hn]
 refine⟨by rw[e];exact hu.erase hn,?_,fun j hj h1 h2 h3=>?_,fun j hj h1=>?_⟩
 ·rw[jN,if_pos ⟨hf,hk⟩];omega
 ·rw[e];have:j=n:=hu j n hj hn (h1.trans TV.symm);subst this;refine BD fun i hi=>?_
  rw[vE hn hi];rw[rF hn]at hi;split
  ·exact fun h=>by have:=hu i j jB hj h;omega
  ·exact fun h=>by have:=hu (i+1) j jB hj h;omega
 ·have c:¬n=j:=fun c=>h1 ⟨c ▸ TV,.inr hk,hf⟩
  have ZT:=hu.erase hn;by_cases d:j<n
  ·have Zm:j<(jT w.l n).length:=by rw[rF hn];omega
   have hx:nth (jT w.l n) j=nth w.l j:=by rw[vE hn Zm,if_pos d]
   have:=ZT.find Zm;rw[hx]at this;rw[e];exact⟨j,Zm,this,.inl hx⟩
  ·have Zm:j-1<(jT w.l n).length:=by rw[rF hn];omega
   have hx:nth (jT w.l n) (j-1)=nth w.l j:=by rw[vE hn Zm,jN,show j-1+1=j from jB]
   have:=ZT.find Zm;rw[hx]at this;rw[e];exact⟨j-1,Zm,this,.inl hx⟩
end
section
variable {p:af}{F:TG->MV->MV}{w:aV}(h:fp w)(hu:UN w.l)
include h hu
variable{nm:TI}
theorem E9{nm2:TI}{x:ak}{e k:Int}(hk:k=2\/k=3)(hx:e=0->x.name=nm):j6 w (nT w nm x e).1 k nm2 (nT w nm x e).2:=by
 unfold nT;split
 ·exact np hu rfl (fun h=>by cases h)
 rename_i c1;split
 ·exact np hu rfl (fun h=>by cases h)
 split
 ·rename_i c;exact np hu rfl (fun h=>(c h).elim)
 ·rename_i c;have:=hx (Classical.not_not.1 c);exact Ot hu rfl rfl hk fun j hj=>this ▸ Im jB j hj
theorem ED{x:ak}{e k:Int}(hk:k=4\/k=5)(hx:e=0->x.name=(curB w).name):j6 w (o8 w x e).1 k nm (o8 w x e).2:=by
 unfold o8;split
 ·rename_i c;exact np hu rfl (fun h=>(c h).elim)
 ·rename_i c;have Vk:=h.c0;exact Fi hu rfl (hx (Classical.not_not.1 c)) h.k rfl (.inr ⟨hk,jB⟩)
theorem Jc(o:lU)(hk:0<=o.kind):j6 w (doesW p F w o).1 (o.kind % 9) o.name (doesW p F w o).2.2:=by
 unfold doesW;split
 ·rename_i c;rw[c];refine np hu ?_ (fun _=>jC);unfold goW;split<;>rfl
 split
 ·rename_i c;rw[c];refine np hu ?_ (fun _=>jC);unfold switchW;split<;>rfl
 split
 ·rename_i c;exact E9 h hu (.inl c) fun e=>by rw[(Np e).1]
 split
 ·rename_i c;exact E9 h hu (.inr c) fun e=>by rw[(Qg e).1]
 split
 ·rename_i c;exact ED h hu (.inl c) fun e=>by rw[(Nr e).1]
 split
 ·rename_i c;exact ED h hu (.inr c) fun e=>by rw[(Tk e).1]
 split
 ·rename_i c;unfold rf;split
  ·exact np hu rfl (fun h=>by cases h)
  rename_i c1;split
  ·exact np hu rfl (fun h=>by cases h)
  split
  ·exact np hu rfl (fun h=>by cases h)
  rename_i c3;obtain⟨n,h1,h2,h3⟩:=AM c1;rw[h2,Int.toNat_natCast];exact OM hu rfl (fun j hj=>Im (nm:=o.more) jB j hj) h1 rfl c h3
 split
 ·rename_i c;unfold pruneW;split
  ·exact np hu rfl (fun h=>by cases h)
  split
  ·exact np hu rfl (fun h=>by cases h)
  obtain⟨n,h1,h2,h3⟩:=AM (nm:=o.name) (l:=w.l) jB;rw[h2,Int.toNat_natCast];refine Pg hu (n:=n) ?_ h1 rfl c h3;split
  ·rfl
  split<;>rfl
 ·have c:o.kind % 9=8:=jB;unfold rebaseW;split
  ·exact np hu rfl (fun h=>by cases h)
  split
  ·exact np hu rfl (fun h=>by cases h)
  split
  ·exact np hu rfl (fun h=>by cases h)
  split
  ·rename_i c4;exact np hu rfl (fun h=>(c4 h).elim)
  rename_i c1 c2 c3 c4;obtain⟨n,h1,h2,h3⟩:=AM (nm:=o.name) (l:=w.l) jB;rw[h2]at c4 ⊢;rw[Int.toNat_natCast]at c4 ⊢;have e1:=(JG (Classical.not_not.1 c4)).1;refine Fi hu (n:=n) (b:=(rebaseB p F (nth w.l n) (nth w.l (di o.more w.l 0).toNat)).1) ?_ (by rw[e1]) h1 rfl (.inl ⟨c,h3⟩);split<;>rfl
end
theorem H4{p:af}(hs:gj p){F:TG->MV->MV}(hF:bQ p (ci p) F){l:List lU}(hl:∀x∈l,cf x.n/\cf x.v.n)(TZ:∀x∈l,0<=x.kind):∀k,k<=l.length->fp (woodsW p F l k)/\UN (woodsW p F l k).l
 |0,_=>⟨Af hs hF hl 0 (Nat.zero_le _),fun i j hi hj _=>by have hi:i<1:=hi;have hj:j<1:=hj;omega⟩
 |k+1,hk=>by obtain⟨a,b⟩:=H4 hs hF hl TZ k jB;have hx:=TZ _ (fg (l:=l) (k:=k) jB);exact⟨Af hs hF hl (k+1) hk,(Jc a b (qb (nth l k)) hx).un⟩
def Ii(l m:List aD)(hl:l.length<=1000):∃r,aB prog 85 [aO bw 5 l,aO bw 5 m] (rB r):=by
 by_cases YC:l.length=m.length
 rotate_left
 ·refine⟨false,?_⟩;have hlI:¬(l.length:Int)=m.length:=jB;refine bG func85 ntmps85 ?_
  (have W:=hlI;repeat' (first|refine aq fun K hK=>?_|refine ap ?_|(with_reducible refine gR 6 ?_);refine dE 6 (aW 0 9) mixed ?_|(refine hK _ _ ?_;clear hK K)|(refine ao ?_ ?_<;>intro hc<;>try exact jz)|(refine bF ?_ ?_<;>intro hc<;>try exact jz)|refine ar ?_|exact jI|(clear hK K)))
  (refine aY [.tmp 4] ?_;try simp only[go_sem])
 by_cases he:∀k,k<l.length->iK (bw (nth l k)) (bw (nth m k))=true
 ·refine⟨true,?_⟩;refine bG func85 ntmps85 ?_
  (have W:=YC;repeat' (first|refine aq fun K hK=>?_|refine ap ?_|(with_reducible refine gR 6 ?_);refine dE 6 (aW 0 9) mixed ?_|(refine hK _ _ ?_;clear hK K)|(refine ao ?_ ?_<;>intro hc<;>try exact jz)|(refine bF ?_ ?_<;>intro hc<;>try exact jz)|refine ar ?_|exact jI|(clear hK K)))
  refine dV (S:=Nat) [(4,2),(11,15)] (fun k=>k<=m.length) (fun k=>[(5,rI k)]) (fun _=>⟨[],[]⟩) (fun k=>m.length-k) 0 (Nat.zero_le _) (dS rfl cv) ?_;rintro k hk Kr TR;by_cases O':k<m.length
  ·have WG:=he k jB;have Tz:k<l.length:=jB;refine S ?_
   (have W:=jA O' (jA Tz (jA YC (WG)));repeat' (first|refine aq fun K hK=>?_|refine ap ?_|(with_reducible refine gR 6 ?_);refine dE 6 (aW 0 9) mixed ?_|(refine hK _ _ ?_;clear hK K)|(refine ao ?_ ?_<;>intro hc<;>try exact jz)|(refine bF ?_ ?_<;>intro hc<;>try exact jz)|refine ar ?_|exact jI|(clear hK K)))
   exact TR _ _ (eu (k+1) jB (by show m.length-(k+1)<m.length-k;omega) rfl cv)
  ·have Tz:¬k<l.length:=jB;refine S ?_
   (have W:=jA O' (jA Tz (YC));repeat' (first|refine aq fun K hK=>?_|refine ap ?_|(with_reducible refine gR 6 ?_);refine dE 6 (aW 0 9) mixed ?_|(refine hK _ _ ?_;clear hK K)|(refine ao ?_ ?_<;>intro hc<;>try exact jz)|(refine bF ?_ ?_<;>intro hc<;>try exact jz)|refine ar ?_|exact jI|(clear hK K)))
   (refine aY [.tmp 4] ?_;try simp only[go_sem])
 ·refine⟨false,?_⟩;refine bG func85 ntmps85 ?_
  (have W:=YC;repeat' (first|refine aq fun K hK=>?_|refine ap ?_|(with_reducible refine gR 6 ?_);refine dE 6 (aW 0 9) mixed ?_|(refine hK _ _ ?_;clear hK K)|(refine ao ?_ ?_<;>intro hc<;>try exact jz)|(refine bF ?_ ?_<;>intro hc<;>try exact jz)|refine ar ?_|exact jI|(clear hK K)))
  refine dV (S:=Nat) [(4,2),(11,15)] (fun k=>k<=m.length/\∀j,j<k->iK (bw (nth l j)) (bw (nth m j))=true) (fun k=>[(5,rI k)]) (fun _=>⟨[],[]⟩) (fun k=>m.length-k) 0 ⟨Nat.zero_le _,fun j h=>jB⟩ (dS rfl cv) ?_;rintro k ⟨hk,hj⟩ Kr TR;have O':k<m.length:=by refine Nat.lt_of_not_le fun h=>he fun j XA=>hj j jB
  have Tz:k<l.length:=jB;cases WG:iK (bw (nth l k)) (bw (nth m k))
  ·(refine S ?_;try exact jI)
   (have W:=jA O' (jA Tz (jA YC (WG)));repeat' (first|refine aq fun K hK=>?_|refine ap ?_|(with_reducible refine gR 6 ?_);refine dE 6 (aW 0 9) mixed ?_|(refine hK _ _ ?_;clear hK K)|(refine ao ?_ ?_<;>intro hc<;>try exact jz)|(refine bF ?_ ?_<;>intro hc<;>try exact jz)|refine ar ?_|exact jI|(clear hK K)))
   (refine aY [.tmp 4] ?_;try simp only[go_sem])
  ·(refine S ?_;try exact jI)
   (have W:=jA O' (jA Tz (jA YC (WG)));repeat' (first|refine aq fun K hK=>?_|refine ap ?_|(with_reducible refine gR 6 ?_);refine dE 6 (aW 0 9) mixed ?_|(refine hK _ _ ?_;clear hK K)|(refine ao ?_ ?_<;>intro hc<;>try exact jz)|(refine bF ?_ ?_<;>intro hc<;>try exact jz)|refine ar ?_|exact jI|(clear hK K)))
   exact TR _ _ (eu (k+1) ⟨jB,fun j YZ=>by
    by_cases e:j<k
    ·exact hj j e
    ·rw[show j=k from jB];exact WG⟩ (by show m.length-(k+1)<m.length-k;omega) rfl cv)
def JW{a b:ak}(ha:gJ a)(hb:gJ b):∃r,aB prog 37 [.agg (bq a),.agg (bq b)] (rB r):=by
 obtain⟨s1,h1⟩:=Ii a.base b.base (by have:=ha.qg;omega);obtain⟨s2,h2⟩:=Ii a.own b.own (by have:=ha.oD;omega);have h3:=ha.inl;have h4:=hb.inl;by_cases hq:s1=true/\s2=true/\a.name=b.name/\a.aC.length=b.aC.length
 rotate_left
 ·refine⟨false,?_⟩;cases s1
  ·refine bG func37 ntmps37 ?_
   (repeat' (first|refine aq fun K hK=>?_|refine ap ?_|(with_reducible refine gR 8 ?_);refine dE 8 (aW 0 11) mixed ?_|(refine hK _ _ ?_;clear hK K)|(refine ao ?_ ?_<;>intro hc<;>try exact jz)|refine aT 2 ?_|refine aT 3 ?_|refine cp (h1) ?_|refine cp (h2) ?_|(refine bF ?_ ?_<;>intro hc<;>try exact jz)|refine ar ?_|exact jI|(clear hK K)))
   (refine aY [.tmp 4] ?_;try simp only[go_sem])
  cases s2
  ·refine bG func37 ntmps37 ?_
   (repeat' (first|refine aq fun K hK=>?_|refine ap ?_|(with_reducible refine gR 8 ?_);refine dE 8 (aW 0 11) mixed ?_|(refine hK _ _ ?_;clear hK K)|(refine ao ?_ ?_<;>intro hc<;>try exact jz)|refine aT 2 ?_|refine aT 3 ?_|refine cp (h1) ?_|refine cp (h2) ?_|(refine bF ?_ ?_<;>intro hc<;>try exact jz)|refine ar ?_|exact jI|(clear hK K)))
   (refine aY [.tmp 4] ?_;try simp only[go_sem])
  by_cases hn:a.name=b.name
  ·have hl:¬a.aC.length=b.aC.length:=fun h=>hq ⟨rfl,rfl,hn,h⟩
   have Tz:¬(a.aC.length:Int)=b.aC.length:=jB;refine bG func37 ntmps37 ?_
   (have W:=jA hn (jA hl (Tz));repeat' (first|refine aq fun K hK=>?_|refine ap ?_|(with_reducible refine gR 8 ?_);refine dE 8 (aW 0 11) mixed ?_|(refine hK _ _ ?_;clear hK K)|(refine ao ?_ ?_<;>intro hc<;>try exact jz)|refine aT 2 ?_|refine aT 3 ?_|refine cp (h1) ?_|refine cp (h2) ?_|(refine bF ?_ ?_<;>intro hc<;>try exact jz)|refine ar ?_|exact jI|(clear hK K)))
   (refine aY [.tmp 4] ?_;try simp only[go_sem])
  ·refine bG func37 ntmps37 ?_
   (have W:=hn;repeat' (first|refine aq fun K hK=>?_|refine ap ?_|(with_reducible refine gR 8 ?_);refine dE 8 (aW 0 11) mixed ?_|(refine hK _ _ ?_;clear hK K)|(refine ao ?_ ?_<;>intro hc<;>try exact jz)|refine aT 2 ?_|refine aT 3 ?_|refine cp (h1) ?_|refine cp (h2) ?_|(refine bF ?_ ?_<;>intro hc<;>try exact jz)|refine ar ?_|exact jI|(clear hK K)))
   (refine aY [.tmp 4] ?_;try simp only[go_sem])
 obtain⟨rfl,rfl,hn,hl⟩:=hq;by_cases he:∀k,k<a.aC.length->nth a.aC k=nth b.aC k
 ·refine⟨true,?_⟩;refine bG func37 ntmps37 ?_
  (have W:=jA hn hl;repeat' (first|refine aq fun K hK=>?_|refine ap ?_|(with_reducible refine gR 8 ?_);refine dE 8 (aW 0 11) mixed ?_|(refine hK _ _ ?_;clear hK K)|(refine ao ?_ ?_<;>intro hc<;>try exact jz)|refine aT 2 ?_|refine aT 3 ?_|refine cp (h1) ?_|refine cp (h2) ?_|(refine bF ?_ ?_<;>intro hc<;>try exact jz)|refine ar ?_|exact jI|(clear hK K)))
  refine dV (S:=Nat) [(4,1),(7,1),(40,18)] (fun k=>k<=b.aC.length) (fun k=>[(7,rI k)]) (fun _=>⟨[],[(2,.var 52 (bq a)),(3,.var 52 (bq b))]⟩) (fun k=>b.aC.length-k) 0 (Nat.zero_le _) (dS rfl cv) ?_;rintro k hk Kr TR;by_cases O':k<b.aC.length
  ·have WG:=he k jB;have Tz:k<a.aC.length:=jB;refine S ?_
   (have W:=jA O' (jA Tz (jA hl (WG)));repeat' (first|refine aq fun K hK=>?_|refine ap ?_|(with_reducible refine gR 8 ?_);refine dE 8 (aW 0 11) mixed ?_|(refine hK _ _ ?_;clear hK K)|(refine ao ?_ ?_<;>intro hc<;>try exact jz)|(refine bF ?_ ?_<;>intro hc<;>try exact jz)|refine ar ?_|exact jI|(clear hK K)))
   exact TR _ _ (eu (k+1) jB (by show b.aC.length-(k+1)<b.aC.length-k;omega) rfl cv)
  ·have Tz:¬k<a.aC.length:=jB;refine S ?_
   (have W:=jA O' (jA Tz (hl));repeat' (first|refine aq fun K hK=>?_|refine ap ?_|(with_reducible refine gR 8 ?_);refine dE 8 (aW 0 11) mixed ?_|(refine hK _ _ ?_;clear hK K)|(refine ao ?_ ?_<;>intro hc<;>try exact jz)|(refine bF ?_ ?_<;>intro hc<;>try exact jz)|refine ar ?_|exact jI|(clear hK K)))
   (refine aY [.tmp 4] ?_;try simp only[go_sem])
 ·refine⟨false,?_⟩;refine bG func37 ntmps37 ?_
  (have W:=jA hn hl;repeat' (first|refine aq fun K hK=>?_|refine ap ?_|(with_reducible refine gR 8 ?_);refine dE 8 (aW 0 11) mixed ?_|(refine hK _ _ ?_;clear hK K)|(refine ao ?_ ?_<;>intro hc<;>try exact jz)|refine aT 2 ?_|refine aT 3 ?_|refine cp (h1) ?_|refine cp (h2) ?_|(refine bF ?_ ?_<;>intro hc<;>try exact jz)|refine ar ?_|exact jI|(clear hK K)))
  refine dV (S:=Nat) [(4,1),(7,1),(40,18)] (fun k=>k<=b.aC.length/\∀j,j<k->nth a.aC j=nth b.aC j) (fun k=>[(7,rI k)]) (fun _=>⟨[],[(2,.var 52 (bq a)),(3,.var 52 (bq b))]⟩) (fun k=>b.aC.length-k) 0 ⟨Nat.zero_le _,fun j h=>jB⟩ (dS rfl cv) ?_;rintro k ⟨hk,hj⟩ Kr TR;have O':k<b.aC.length:=by refine Nat.lt_of_not_le fun h=>he fun j XA=>hj j jB
  have Tz:k<a.aC.length:=jB;by_cases WG:nth a.aC k=nth b.aC k
  ·(refine S ?_;try exact jI)
   (have W:=jA O' (jA Tz (jA hl (WG)));repeat' (first|refine aq fun K hK=>?_|refine ap ?_|(with_reducible refine gR 8 ?_);refine dE 8 (aW 0 11) mixed ?_|(refine hK _ _ ?_;clear hK K)|(refine ao ?_ ?_<;>intro hc<;>try exact jz)|(refine bF ?_ ?_<;>intro hc<;>try exact jz)|refine ar ?_|exact jI|(clear hK K)))
   exact TR _ _ (eu (k+1) ⟨jB,fun j YZ=>by
    by_cases e:j<k
    ·exact hj j e
    ·rw[show j=k from jB];exact WG⟩ (by show b.aC.length-(k+1)<b.aC.length-k;omega) rfl cv)
  ·(refine S ?_;try exact jI)
   (have W:=jA O' (jA Tz (jA hl (WG)));repeat' (first|refine aq fun K hK=>?_|refine ap ?_|(with_reducible refine gR 8 ?_);refine dE 8 (aW 0 11) mixed ?_|(refine hK _ _ ?_;clear hK K)|(refine ao ?_ ?_<;>intro hc<;>try exact jz)|(refine bF ?_ ?_<;>intro hc<;>try exact jz)|refine ar ?_|exact jI|(clear hK K)))
   (refine aY [.tmp 4] ?_;try simp only[go_sem])
def RE(s:TI)(l:List lU)(hl:∀x∈l,OR x):aB prog 8 [rS s,aO gP 7 l] (rB true):=by
 have hs:=H6 (qN s) (P9 s);have hok:=@IT (qN s);have Zn:=@Jw (qN s);generalize fX (qN s)=R at hs hok Zn;obtain⟨p,x,e⟩:=R;simp only at hs hok Zn;by_cases he:e=0
 rotate_left
 ·refine bG func8 ntmps8 ?_
  (have W:=he;repeat' (first|refine aq fun K hK=>?_|refine ap ?_|(with_reducible refine gR 31 ?_);refine dE 31 (aW 0 8) mixed ?_|(refine hK _ _ ?_;clear hK K)|(refine ao ?_ ?_<;>intro hc<;>try exact jz)|refine cp (HT) ?_|refine cp (EL _) ?_|refine cH 6 ?_|refine cp (hs) ?_|(refine bF ?_ ?_<;>intro hc<;>try exact jz)|refine ar ?_|exact jI|(clear hK K)))
  (refine aY [.tmp 4] ?_;try simp only[go_sem])
 have hp:mA p:=hok he;have T0:fu p:=Zn he;obtain⟨F,hF⟩:=Dm hp.ok;have hW:=H4 hp.ok hF (l:=l) (fun x hx=>⟨(hl x hx).n,(hl x hx).v⟩) fun x hx=>(hl x hx).k0
 have hD:∀k,k<l.length->∃(O:lU) (w x:aV) (n f kk:Int),woodsW p F l k=w/\woodsW p F l (k+1)=x/\fp w/\fp x/\j6 w x kk O.name f/\kk<=8/\O.kind.tmod 9=kk/\aB prog 41 [.agg (gP (nth l k))] (.agg (gP O))/\aB prog 42 [.agg (cd p),.agg (cS w),.agg (gP O)] (.aQ [.agg (cS x),rI n,rI f]):=fun k hk=>by have hx:=hl _ (fg hk);have TZ:0<=(qb (nth l k)).kind:=hx.k0;exact⟨qb (nth l k),_,_,_,_,_,rfl,rfl,(hW k jB).1,(hW (k+1) jB).1,Jc (hW k jB).1 (hW k jB).2 (qb (nth l k)) TZ,jB,Int.tmod_eq_emod_of_nonneg TZ,NN (nth l k),KC hp T0 hF (hW k jB).1 (qb (nth l k)) TZ hx.n hx.v⟩
 have ZA:aB prog 40 [] (.agg (cS (woodsW p F l 0))):=Hx;generalize woodsW p F l=Wl at*;clear hW;refine bG func8 ntmps8 ?_
 (have W:=he;repeat' (first|refine aq fun K hK=>?_|refine ap ?_|(with_reducible refine gR 31 ?_);refine dC 31 ([],[145],[]) [] (aW 0 8) mixed ?_|(refine hK _ _ ?_;clear hK K)|(refine ao ?_ ?_<;>intro hc<;>try exact jz)|refine cp (HT) ?_|refine cp (EL _) ?_|refine cH 6 ?_|refine cH 9 ?_|refine cp (hs) ?_|refine cp (ZA) ?_|(refine bF ?_ ?_<;>intro hc<;>try exact jz)|refine ar ?_|exact jI|(clear hK K)))
 have TX:=hK;clear hK;refine dV (S:=Nat) [(4,1),(10,13),(35,126)] (fun k=>k<=l.length/\k<=16) (fun k=>[(10,rI k)]) (fun k=>⟨[],[(6,.var 32 (cd p)),(9,.var 90 (cS (Wl k)))]⟩) (fun k=>16-k) 0 ⟨Nat.zero_le _,Nat.zero_le _⟩ (dS rfl cv) ?_;rintro k ⟨hk,TY⟩ Kr TR;by_cases h2:k<16
 rotate_left
 ·by_cases h1:k<l.length
  ·(refine S ?_;try exact jI)
   (have W:=jA h1 h2;repeat' (first|refine aq fun K hK=>?_|refine ap ?_|(with_reducible refine gR 31 ?_);refine dC 31 ([],[145],[]) [] (aW 0 8) mixed ?_|(refine hK _ _ ?_;clear hK K)|(refine ao ?_ ?_<;>intro hc<;>try exact jz)|refine TX _ _ ?_|(refine bF ?_ ?_<;>intro hc<;>try exact jz)|refine ar ?_|exact jI|(clear hK K)))
   (refine aY [.tmp 4] ?_;try simp only[go_sem])
  ·(refine S ?_;try exact jI)
   (have W:=h1;repeat' (first|refine aq fun K hK=>?_|refine ap ?_|(with_reducible refine gR 31 ?_);refine dC 31 ([],[145],[]) [] (aW 0 8) mixed ?_|(refine hK _ _ ?_;clear hK K)|(refine ao ?_ ?_<;>intro hc<;>try exact jz)|refine TX _ _ ?_|(refine bF ?_ ?_<;>intro hc<;>try exact jz)|refine ar ?_|exact jI|(clear hK K)))
   (refine aY [.tmp 4] ?_;try simp only[go_sem])
 by_cases h1:k<l.length
 rotate_left
 ·(refine S ?_;try exact jI)
  (have W:=h1;repeat' (first|refine aq fun K hK=>?_|refine ap ?_|(with_reducible refine gR 31 ?_);refine dC 31 ([],[145],[]) [] (aW 0 8) mixed ?_|(refine hK _ _ ?_;clear hK K)|(refine ao ?_ ?_<;>intro hc<;>try exact jz)|refine TX _ _ ?_|(refine bF ?_ ?_<;>intro hc<;>try exact jz)|refine ar ?_|exact jI|(clear hK K)))
  (refine aY [.tmp 4] ?_;try simp only[go_sem])
 obtain⟨O,w,x,n,f,kk,ew,ex,hwo,hxo,P,hk8,hm,ho,hd⟩:=hD k h1;rw[ew];have Tx:=fun j hj=>S6 P hk8 (j:=j) hj
 have Yq:=fun j=>re x (nth w.l j).name (by have:=hxo.ln;omega)
 have hsx:=fun a j ha hj=>JW (hxo.b a ha).ok (hwo.b j hj).ok
 have hsm:=fun j hj=>SB (hwo.b j hj).ok
 have UE:=JR P;have Vp:=hwo.ln;have Tz:=hxo.ln;clear P hD hwo hxo ew ZA;rcases UE with⟨c0,c1,c2,c3,I'⟩|⟨c0,c1,c2,c3,I'⟩|⟨c0,c1,c2,c3,I'⟩|⟨c0,c1,c2,c3,I'⟩|⟨c0,c1,c2,c3,I'⟩
 all_goals
  refine S ?_
  (have W:=jA h1 (jA h2 (jA hm (jA c0 (jA c1 (jA c2 (jA c3 (I')))))));repeat' (first|refine aq fun K hK=>?_|refine ap ?_|(with_reducible refine gR 31 ?_);refine dC 31 ([],[145],[]) [] (aW 0 8) mixed ?_|(refine hK _ _ ?_;clear hK K)|(refine ao ?_ ?_<;>intro hc<;>try exact jz)|refine cH 11 ?_|refine cH 12 ?_|refine cp (ho) ?_|refine cp (hd) ?_|refine TX _ _ ?_|(refine bF ?_ ?_<;>intro hc<;>try exact jz)|refine ar ?_|exact jI|(clear hK K)))
  have X2:=hK;clear hK;have hKc:=hK;clear hK;refine dV (S:=Nat) [(4,1),(17,6),(89,71)] (fun j=>j<=w.l.length) (fun j=>[(17,rI j)]) (fun _=>⟨[],[(6,.var 32 (cd p)),(9,.var 90 (cS w)),(11,.var 93 (gP O)),(12,.var 90 (cS x))]⟩) (fun j=>w.l.length-j) 0 (Nat.zero_le _) (dS rfl cv) ?_;rintro j hj Kq hKq;by_cases O':j<w.l.length
  rotate_left
  ·(refine S ?_;try exact jI)
   (have W:=O';repeat' (first|refine aq fun K hK=>?_|refine ap ?_|(with_reducible refine gR 31 ?_);refine dC 31 ([],[145],[]) [] (aW 0 8) mixed ?_|(refine hK _ _ ?_;clear hK K)|(refine ao ?_ ?_<;>intro hc<;>try exact jz)|refine X2 _ _ ?_|(refine hKc _ _ ?_)|refine TX _ _ ?_|(refine bF ?_ ?_<;>intro hc<;>try exact jz)|refine ar ?_|exact jI|(clear hK K)))
   refine TR _ _ (mV [11,12] (k+1) ⟨jB,jB⟩ (by show 16-(k+1)<16-k;omega) rfl Sd (by rw[ex];rfl) iF)
  have Yq:=Yq j;rcases Tx j O' with⟨⟨R,Q⟩,hz⟩|⟨a,ha,hz,⟨he,hQ⟩|hQ⟩
  all_goals
   rw[hz]at Yq
  ·try omega
   all_goals
    refine S ?_
    (have W:=jA O' (jA Q (jA Bool.and_false (jA hm (jA c0 (jA c1 (jA c2 (c3)))))));repeat' (first|refine aq fun K hK=>?_|refine ap ?_|(with_reducible refine gR 31 ?_);refine dC 31 ([],[145],[]) [] (aW 0 8) mixed ?_|(refine hK _ _ ?_;clear hK K)|(refine ao ?_ ?_<;>intro hc<;>try exact jz)|refine cH 18 ?_|refine cp (Yq) ?_|refine X2 _ _ ?_|(refine hKc _ _ ?_)|refine TX _ _ ?_|(refine bF ?_ ?_<;>intro hc<;>try exact jz)|refine ar ?_|exact jI|(clear hK K)))
    refine hKq _ _ (mV [18] (j+1) jB (by show w.l.length-(j+1)<w.l.length-j;omega) rfl Sd (by rfl) iF)
  ·have hr:=hsm j O';have hr:=(congrArg (fun b=>aB prog 37 [.agg (bq b),.agg (bq (nth w.l j))] (rB true)) he).mpr hr;rcases hQ with⟨R,Q⟩|⟨R,Q⟩|⟨R,Q⟩|⟨R,Q⟩
   all_goals
    try omega
   all_goals
    refine S ?_
    (have W:=jA O' (jA Q (jA Bool.and_false (jA hm (jA c0 (jA c1 (jA c2 (jA c3 (ha))))))));repeat' (first|refine aq fun K hK=>?_|refine ap ?_|(with_reducible refine gR 31 ?_);refine dC 31 ([],[145],[]) [] (aW 0 8) mixed ?_|(refine hK _ _ ?_;clear hK K)|(refine ao ?_ ?_<;>intro hc<;>try exact jz)|refine cH 18 ?_|refine cp (Yq) ?_|refine cq (hr) ?_|refine X2 _ _ ?_|(refine hKc _ _ ?_)|refine TX _ _ ?_|(refine bF ?_ ?_<;>intro hc<;>try exact jz)|refine ar ?_|exact jI|(clear hK K)))
    refine hKq _ _ (mV [18] (j+1) jB (by show w.l.length-(j+1)<w.l.length-j;omega) rfl Sd (by rfl) iF)
  ·obtain⟨r,hr⟩:=hsx a j ha O';rcases hQ with⟨R,Q⟩|⟨R,Q⟩|⟨R,Q⟩
   all_goals
    try omega
   all_goals
    refine S ?_
    (have W:=jA O' (jA Q (jA Bool.and_false (jA hm (jA c0 (jA c1 (jA c2 (jA c3 (ha))))))));repeat' (first|refine aq fun K hK=>?_|refine ap ?_|(with_reducible refine gR 31 ?_);refine dC 31 ([],[145],[]) [] (aW 0 8) mixed ?_|(refine hK _ _ ?_;clear hK K)|(refine ao ?_ ?_<;>intro hc<;>try exact jz)|refine cH 18 ?_|refine cp (Yq) ?_|refine cq (hr) ?_|refine X2 _ _ ?_|(refine hKc _ _ ?_)|refine TX _ _ ?_|(refine bF ?_ ?_<;>intro hc<;>try exact jz)|refine ar ?_|exact jI|(clear hK K)))
    refine hKq _ _ (mV [18] (j+1) jB (by show w.l.length-(j+1)<w.l.length-j;omega) rfl Sd (by rfl) iF)
end Go.Proofs.YtjpcgmjaipfgdaaGreatDoor
/- Lemmas. No conditions. -/
import Derived.Test.YtjpcgmjaipfgdaaGreatDoorTrR
import Derived.Test.YtjpcgmjaipfgdaaGreatDoorTmX
set_option linter.all false
set_option maxHeartbeats 4000000
set_option maxRecDepth 10000
namespace Go.Gd
open Go
abbrev VS:=List bB×List bB
def sa(x:bB)(s:VS):VS:=(s.1++[x],s.2.drop 1)
def oL(m:Nat)(s:VS):VS:=(s.1.take m,s.1.drop m++s.2)
def kM(w:Int->VS->Bool×VS):UY->VS->Bool×VS
 |[],s=>(false,s)
 |b::l,s=>if(w b s).1=true then(true,(w b s).2)else kM w l (w b s).2
def mT(w:Int->VS->Bool×VS)(p:ab)(node:Int):UY->VS->Bool×VS
 |[],s=>(false,s)
 |x::l,s=>
  if x=node then(true,s)
  else if(ak p x).kind=10 then mT w p node l (sa (qE p x) s)
  else if(ak p x).kind=15\/(ak p x).kind=16 then
   (if(kM w ((ak p x).l.drop 1) s).1=true then(true,(kM w ((ak p x).l.drop 1) s).2)else mT w p node l (kM w ((ak p x).l.drop 1) s).2)
  else mT w p node l s
def jO(p:ab)(node:Int):Nat->Int->VS->Bool×VS
 |0,_,s=>(false,s)
 |n+1,b,s=>if(mT (jO p node n) p node (ak p b).l s).1=true then mT (jO p node n) p node (ak p b).l s else(false,oL s.1.length (mT (jO p node n) p node (ak p b).l s).2)
def wX(s:VS)(o:Option (List bB))(r:Bool×VS):Prop:=match o with
 |some R=>r.1=true/\r.2.1=R
 |none=>r.1=false/\r.2.1=s.1
theorem Iw{w:Int->VS->Bool×VS}{v:Int->List bB->Option (List bB)}(h:∀b s,wX s (v b s.1) (w b s)):∀(l:UY) (s:VS),wX s (nF v s.1 l) (kM w l s)
 |[],s=>⟨rfl,rfl⟩
 |b::l,s=>by
  have hb:=h b s;unfold nF kM;cases e:v b s.1 with
  |some R=> rw[e]at hb;rw[if_pos hb.1];exact⟨rfl,hb.2⟩
  |none=>
   rw[e]at hb;rw[if_neg (by rw[hb.1];decide),Option.none_or];have:=Iw h l (w b s).2;rw[hb.2]at this;unfold wX at this ⊢;rw[<-hb.2];rw[hb.2];cases e2:nF v s.1 l with
   |some R=>rw[e2]at this;exact this
   |none=>rw[e2]at this;exact⟨this.1,this.2.trans hb.2⟩
def LJ(s:VS)(o:Option (List bB))(r:Bool×VS):Prop:=match o with
 |some R=>r.1=true/\r.2.1=R
 |none=>r.1=false/\r.2.1.take s.1.length=s.1
theorem yE{p:ab}{node:Int}{w:Int->VS->Bool×VS}{v:Int->List bB->Option (List bB)}(h:∀b s,wX s (v b s.1) (w b s)):∀(l:UY) (s:VS),LJ s (oT v p node l s.1) (mT w p node l s)
 |[],s=>⟨rfl,List.take_length⟩
 |x::l,s=>by
  unfold oT mT;by_cases hx:x=node
  ·rw[if_pos hx,if_pos hx];exact⟨rfl,rfl⟩
  rw[if_neg hx,if_neg hx];by_cases k10:(ak p x).kind=10
  ·rw[if_pos k10,jN,Option.none_or];have:=yE (p:=p) (node:=node) h l (sa (qE p x) s);have e:(sa (qE p x) s).1=k8 p x s.1:=by unfold k8;rw[if_pos k10];rfl
   rw[e]at this;cases e2:oT v p node l (k8 p x s.1)with
   |some R=>rw[e2]at this;exact this
   |none=>
    rw[e2]at this;refine⟨this.1,?_⟩;have h2:=this.2;rw[e]at h2;have h3:(k8 p x s.1).take s.1.length=s.1:=by unfold k8;rw[if_pos k10,List.take_left]
    have hl:s.1.length<=(k8 p x s.1).length:=by unfold k8;rw[if_pos k10];simp
    have h4:(mT w p node l (sa (qE p x) s)).2.1.take s.1.length=((mT w p node l (sa (qE p x) s)).2.1.take (k8 p x s.1).length).take s.1.length:=by rw[List.take_take,Nat.min_eq_left hl]
    rw[h4,h2,h3]
  rw[if_neg k10];have hl:k8 p x s.1=s.1:=by unfold k8;rw[if_neg k10]
  rw[hl];by_cases kb:(ak p x).kind=15\/(ak p x).kind=16
  ·rw[if_pos kb,if_pos kb];have hk:=Iw h ((ak p x).l.drop 1) s;cases e:nF v s.1 ((ak p x).l.drop 1)with
   |some R=>rw[e]at hk;rw[if_pos hk.1];exact⟨rfl,hk.2⟩
   |none=>
    rw[e]at hk;rw[if_neg (by rw[hk.1];decide),Option.none_or];have:=yE (p:=p) (node:=node) h l (kM w ((ak p x).l.drop 1) s).2;rw[hk.2]at this;cases e2:oT v p node l s.1 with
    |some R=>rw[e2]at this;exact this
    |none=>rw[e2]at this;refine⟨this.1,?_⟩;have h2:=this.2;rw[hk.2]at h2;exact h2
  ·rw[if_neg kb,if_neg kb,Option.none_or];exact yE (p:=p) (node:=node) h l s
theorem Dz{p:ab}{node:Int}:∀(n:Nat) (b:Int) (s:VS),wX s (jK p node n b s.1) (jO p node n b s)
 |0,b,s=>⟨rfl,rfl⟩
 |n+1,b,s=>by
  have:=yE (p:=p) (node:=node) (Dz (p:=p) (node:=node) n) (ak p b).l s;unfold jK jO;cases e:oT (jK p node n) p node (ak p b).l s.1 with
  |some R=>rw[e]at this;rw[if_pos this.1];exact this
  |none=>rw[e]at this;rw[if_neg (by rw[this.1];decide)];exact⟨rfl,this.2⟩
def ll(s:VS):Nat:=s.1.length+s.2.length
def JF(x:bB)(s:VS){T:Nat}(h:ll s<=T)(h1:s.1.length+1<=T):ll (sa x s)<=T:=by unfold ll sa at*;simp only[List.length_append,List.length_cons,List.length_nil,List.length_drop];omega
def SB(m:Nat)(s:VS):ll (oL m s)=ll s:=by unfold ll oL;simp only[List.length_append,List.length_take,List.length_drop];omega
def Hy{p:ab}{node:Int}{n:Nat}{b:Int}{s:VS}(h:(jO p node n b s).1=false):(jO p node n b s).2.1=s.1:=by
 have:=Dz (p:=p) (node:=node) n b s;cases e:jK p node n b s.1 with
 |some R=>rw[e]at this;rw[this.1]at h;cases h
 |none=>rw[e]at this;exact this.2
def qv(w:Int->VS->Bool×VS):UY->VS->Int->Int
 |[],_,_=>-1
 |b::l,s,i=>if(w b s).1=true then i else qv w l (w b s).2 (i+1)
theorem Ez(w:Int->VS->Bool×VS):∀(l:UY) (s:VS) (i:Int),0<=i->(kM w l s).1=decide (0<=qv w l s i)
 |[],s,i,_=>rfl
 |b::l,s,i,h=>by
  unfold kM qv;split
  ·exact(decide_eq_true h).symm
  ·exact Ez w l _ (i+1) jB
def Gt(w:Int->VS->Bool×VS)(b:Int)(l:UY)(s:VS):kM w (b::l) s=if(w b s).1=true then(true,(w b s).2)else kM w l (w b s).2:=by conv=>lhs;unfold kM
def TC(w:Int->VS->Bool×VS)(b:Int)(l:UY)(s:VS)(i:Int):qv w (b::l) s i=if(w b s).1=true then i else qv w l (w b s).2 (i+1):=by conv=>lhs;unfold qv
@[go_sem] def j31(f:FuncId)(cs:UU):(AV.eW f cs).cells=[.eW f cs]:=(rfl)
@[go_sem] def j9R(f:FuncId)(cs:UU):(AV.eW f cs).one=true:=by simp[AV.one]
@[go_sem] def j6J(i:Nat):(AV.mr i).cells=[.mr i]:=(rfl)
@[go_sem] def qdv(i:Nat):(AV.mr i).one=true:=by simp[AV.one]
variable{nm:U0}
def MK{ty:Int}{l:List bB}{k:Nat}(hk:k<l.length)(VL:(nth l k).name=nm/\(nth l k).ty=ty)(Vj:∀j,j<k->¬((nth l j).name=nm/\(nth l j).ty=ty)):iD nm ty l 0=(k:Int):=by
 by_cases h:0<=iD nm ty l 0
 ·obtain⟨j,e,hj,g,f⟩:=yN nm ty l 0 h;have e:iD nm ty l 0=0+(j:Int):=e;rcases Nat.lt_trichotomy j k with c|c|c
  ·exact(Vj j c g).elim
  ·omega
  ·exact(f k c VL).elim
 ·exact(Ia nm ty l 0 (by show iD nm ty l 0<0;omega) k hk VL).elim
def NT{ty:Int}{l:List bB}(Vj:∀j,j<l.length->¬((nth l j).name=nm/\(nth l j).ty=ty)):iD nm ty l 0=-1:=by
 rcases FK nm ty l 0 (Int.le_refl 0)with e|⟨a,b⟩
 ·exact e
 ·obtain⟨j,e,hj,g,f⟩:=yN nm ty l 0 a;exact(Vj j hj g).elim
def Jq{P:U6}{f:FuncId}{args:UU}{s L:UT}{B:UZ}{K:UR}{r0:AV}(hc:af P f args s fun r l=>r=r0/\l=s)(hs:∀i r,aC s i=some r->aC L i=some r)(ha:aY (fun i=>(ids s).contains i) args=true)(Vf:∀i r,aC s i=some r->aY (fun i=>(ids s).contains i) r.cells=true)(hn:(ids s).Nodup)(k:K r0 ⟨B,L⟩)(h0:aX P f=true:=by exact dv):fi P (.raw (.func (.func f) #[] #[])) args ⟨B,L⟩ K:=by
 refine nw h0 fun w vs h1 h3=>?_
 refine(zm (H:=⟨B,L⟩) (K:=fun r H'=>r=r0/\∃l',H'=⟨B,l'⟩/\∀i,aC l' i=aC L i) hc hs ha Vf (fun r l' ⟨e1,e2⟩=>⟨fun i s' Yu=>?_,by rw[e2];exact hn,e1,_,rfl,fun i=>?_⟩) h1 h3).mono ?_
 ·subst e2;exact .inl (tF Yu)
 ·subst e2;rw[uM _ _ _ (fun _ _ _=>trivial) hn];cases e:aC l' i with
  |none=>rfl
  |some x=>rw[hs i x e];rfl
 ·rintro e W ⟨v,r,H',w',rfl,rfl,⟨rfl,l',rfl,Wt⟩,g1,g2,g3⟩;exact⟨v,_,⟨B,L⟩,w',rfl,rfl,k,DE Wt g1,g2,{ g3 with base:=g3.base }⟩
theorem G7{p:ab}{node:Int}(hl:∀b,(ak p b).l.length<=300):∀(n:Nat) (b:Int) (vars r:List bB),jK p node n b vars=some r->r.length<=vars.length+300*n
 |0,b,vars,r,h=>by cases h
 |n+1,b,vars,r,h=>by
  have ih:=G7 (node:=node) hl n;have aH:∀(l:UY) (vs r:List bB),nF (jK p node n) vs l=some r->r.length<=vs.length+300*n:=fun l=>by
   induction l with
   |nil=>intro vs r h;cases h
   |cons b l ihl=>
    intro vs r h;unfold nF at h;cases e:jK p node n b vs with
    |none=>rw[e]at h;exact ihl vs r h
    |some R=>rw[e]at h;cases h;exact ih b vs _ e
  have sc:∀(l:UY) (vs r:List bB),oT (jK p node n) p node l vs=some r->r.length<=vs.length+l.length+300*n:=fun l=>by
   induction l with
   |nil=>intro vs r h;cases h
   |cons x l ihl=>
    intro vs r h;have YI:(k8 p x vs).length<=vs.length+1:=by unfold k8;split<;>simp
    unfold oT at h;simp only[List.length_cons];split at h
    ·cases h;omega
    ·cases e:(if(ak p x).kind=15\/(ak p x).kind=16 then nF (jK p node n) (k8 p x vs) ((ak p x).l.drop 1)else none)with
     |none=>rw[e]at h;have:=ihl _ r h;omega
     |some R=>
      rw[e]at h;cases h;split at e
      ·have:=aH _ _ _ e;omega
      ·cases e
  have:=sc _ _ _ h;have:=hl b;omega
end Go.Gd
namespace Go.Proofs.YtjpcgmjaipfgdaaGreatDoor
open Go Go.Gd Tryz
theorem Cs{p:ab}{node:Int}{n:Nat}{T B:Nat}(hw:∀b s,0<=b->b.toNat<B->bX p.aa.nodes b=18->ll s<=1000000->s.1.length<=T->ll (jO p node n b s).2<=1000000):∀(l:UY) (s:VS),(∀b∈l,0<=b/\b.toNat<B/\bX p.aa.nodes b=18)->ll s<=1000000->s.1.length<=T->ll (kM (jO p node n) l s).2<=1000000/\((kM (jO p node n) l s).1=false->(kM (jO p node n) l s).2.1=s.1)
 |[],s,_,h,_=>⟨h,fun _=>rfl⟩
 |b::l,s,hl,h,h1=>by
  obtain⟨b0,b1,b2⟩:=hl b jE;have hb:=hw b s b0 b1 b2 h h1;rw[Gt];by_cases e:(jO p node n b s).1=true
  ·rw[if_pos e];exact⟨hb,fun h=>by cases h⟩
  ·rw[if_neg e];have e1:=Hy (Bool.not_eq_true _ ▸ e);have:=Cs hw l (jO p node n b s).2 (fun b hb=>hl b (by simp[hb])) hb (by rw[e1];exact h1);exact⟨this.1,fun h=>(this.2 h).trans e1⟩
theorem BK{p:ab}(h:nU p)(node:Int):∀(n:Nat) (b:Int) (s:VS),0<=b->b.toNat<p.aa.nodes.length->bX p.aa.nodes b=18->ll s<=1000000->s.1.length+300*b.toNat<=900000->ll (jO p node n b s).2<=1000000
 |0,b,s,_,_,_,ht,_=>ht
 |n+1,b,s,h0,hl,hk,ht,h1=>by
  have sh:=h.aa.shape b.toNat hl;have hll:=Ap h b;have sc:∀(l:UY) (t:VS),(∀x∈l,x∈(ak p b).l)->ll t<=1000000->t.1.length+l.length<=s.1.length+300->ll (mT (jO p node n) p node l t).2<=1000000:=fun l=>by
   induction l with
   |nil=>intro t _ g _;exact g
   |cons x l ih=>
    intro t hx g g1;have hxb:=sh.2.1 x (hx x jE);have Yv:x.toNat<p.aa.nodes.length:=jB;have shx:=h.aa.shape x.toNat Yv;simp only[List.length_cons]at g1;have Vx:∀y∈l,y∈(ak p b).l:=fun y hy=>hx y (by simp[hy])
    unfold mT;split
    ·exact g
    split
    ·exact ih _ Vx (JF _ _ g jB) (by show(t.1++[_]).length+_<=_;simp;omega)
    split
    ·rename_i kb;have VI:∀y∈(ak p x).l.drop 1,0<=y/\y.toNat<x.toNat/\bX p.aa.nodes y=18:=fun y hy=>by
      have YQ:y∈(nth p.aa.nodes x.toNat).l:=List.mem_of_mem_drop hy;have ZR:=shx.2.1 y YQ;refine⟨ZR.1,ZR.2,?_⟩;have hy:y∈(nth p.aa.nodes x.toNat).l.drop 1:=hy;rcases kb with kb|kb
      ·obtain⟨a,c,_,hb,hl|⟨d,hl,hd⟩⟩:=shx.1.lg kb
       ·rw[hl]at hy;simp at hy;subst hy;exact hb
       ·rw[hl]at hy;simp at hy;rcases hy with rfl|rfl
        ·exact hb
        ·exact hd
      ·obtain⟨a,c,hl,_,hb⟩:=shx.1.ee kb;rw[hl]at hy;simp at hy;subst hy;exact hb
     have Z7:=Cs (p:=p) (node:=node) (n:=n) (T:=s.1.length+300) (B:=x.toNat) (fun c u c0 c1 c2 c3 c4=>BK h node n c u c0 jB c2 c3 jB) ((ak p x).l.drop 1) t VI g jB;split
     ·exact Z7.1
     ·rename_i e;have e1:=Z7.2 (Bool.not_eq_true _ ▸ e);exact ih _ Vx Z7.1 (by rw[e1];omega)
    ·exact ih _ Vx g jB
  have:=sc (ak p b).l s (fun x hx=>hx) ht jB;unfold jO;split
  ·exact this
  ·rw[SB];exact this
abbrev tz:UU:=[.pt 3 0 0 0,.pt 1 0 0 0,.pt 2 0 0 0,.pt 7 0 0 0]
def fE(p:ab)(node:Int)(s:VS):UT:=[(1,.var 32 (cY p)),(2,.var 3 [rI node]),(3,.var 184 [.rs 4 (s.1.length+s.2.length) 3 s.1.length]),(4,.aJ 258 3 ((s.1++s.2).map k7)),(7,.var 178 [.eW 221 tz])]
attribute [go_sem] fE
def UD{p:ab}(node:Int)(w:Int->VS->Bool×VS)(L:UY)(s0:VS)(I:VS->Prop)(hL:L.length<=300)(hI0:I s0)
  (hw:∀b∈L,∀s,I s->af prog 221 (rI b::tz) (fE p node s) (fun r l'=>r=rB (w b s).1/\l'=fE p node (w b s).2)) (hI:∀b∈L,∀s,I s->(w b s).1=false->I (w b s).2) :
  af prog 246 [aM eI 1 L,.eW 221 tz] (fE p node s0) (fun r l'=>r=rI (qv w L s0 0)/\l'=fE p node (kM w L s0).2):=by
 suffices key:∀(sR:VS) (iR:Int),sR=(kM w L s0).2->iR=qv w L s0 0->af prog 246 [aM eI 1 L,.eW 221 tz] (fE p node s0) (fun r l'=>r=rI iR/\l'=fE p node sR) from key _ _ rfl rfl
 intro sR iR Zq hiR;refine aQ func246 ntmps246 ?_;refine S ?_
 (repeat' (first|refine ar fun K hK=>?_|refine av ?_|(refine hK _ _ ?_;clear hK K)|(refine au ?_ ?_<;>intro hc<;>try exact jz)|refine aq ?_|exact jI|(clear hK K)))
 have Vc:=hK;clear hK;refine dJ (S:=Nat×VS) [(4,2),(8,11)] (fun t=>t.1<=L.length/\I t.2/\qv w (L.drop t.1) t.2 t.1=iR/\(kM w (L.drop t.1) t.2).2=sR) (fun t=>[(8,rI t.1)]) (fun t=>⟨[1,2,3,4,7],fE p node t.2⟩) (fun t=>L.length-t.1) (0,s0) ⟨Nat.zero_le _,hI0,hiR.symm,Zq.symm⟩ (dK jD bU) ?_;rintro⟨k,s⟩ ⟨hk,hIs,h1,h2⟩ Kr Vb;simp only at hk hIs h1 h2 ⊢;by_cases D':k<L.length
 ·have YP:=hw _ (fc D') s hIs;have hIk:=hI _ (fc D') s hIs;rw[lb D',TC]at h1;rw[lb D',Gt]at h2;generalize ZA:nth L k=x at*;generalize w x s=r at*;cases hr:r.1 with
  |true=>
   rw[if_pos hr]at h1 h2;simp only at h1 h2;subst h1 h2;rw[hr]at YP;refine S ?_
   (have W:=ZA;repeat' (first|refine ar fun K hK=>?_|refine av ?_|(refine hK _ _ ?_;clear hK K)|(refine au ?_ ?_<;>intro hc<;>try exact jz)|(refine cl YP ?_)|refine aq ?_|exact jI|(clear hK K)))
   (refine cd [.tmp 4] ?_ ?_<;>(try simp only[go_sem]))
  |false=>
   rw[if_neg (by rw[hr];decide)]at h1 h2;rw[hr]at YP;refine S ?_
   (have W:=ZA;repeat' (first|refine ar fun K hK=>?_|refine av ?_|(refine hK _ _ ?_;clear hK K)|(refine au ?_ ?_<;>intro hc<;>try exact jz)|(refine cl YP ?_)|refine aq ?_|exact jI|(clear hK K)))
   refine Vb _ _ (dT (k+1,r.2) ⟨by show k+1<=L.length;omega,hIk hr,h1,h2⟩ (by show L.length-(k+1)<L.length-k;omega) jD bU)
 ·have Xz:k=L.length:=jB;subst Xz;rw[List.drop_length]at h1 h2;have h1:iR=-1:=h1.symm;have h2:sR=s:=h2.symm;subst h1 h2;refine S ?_
  (repeat' (first|refine ar fun K hK=>?_|refine av ?_|(refine hK _ _ ?_;clear hK K)|(refine au ?_ ?_<;>intro hc<;>try exact jz)|refine Vc _ _ ?_|refine aq ?_|exact jI|(clear hK K)))
  (refine cd [.tmp 4] ?_ ?_<;>(try simp only[go_sem]))
def Qd{p:ab}(node:Int)(w:Int->VS->Bool×VS)(L:UY)(s0:VS)(I:VS->Prop)(hL:L.length<=300)(hI0:I s0)
  (hw:∀b∈L,∀s,I s->af prog 221 (rI b::tz) (fE p node s) (fun r l'=>r=rB (w b s).1/\l'=fE p node (w b s).2)) (hI:∀b∈L,∀s,I s->(w b s).1=false->I (w b s).2) :
  af prog 222 [aM eI 1 L,.eW 221 tz] (fE p node s0) (fun r l'=>r=rB (kM w L s0).1/\l'=fE p node (kM w L s0).2):=by
 have hi:=UD node w L s0 I hL hI0 hw hI;rw[Ez w L s0 0 jB];generalize qv w L s0 0=i at*;generalize (kM w L s0).2=sR at*;refine aQ func222 ntmps222 ?_;refine S ?_
 (repeat' (first|refine ar fun K hK=>?_|refine av ?_|(refine hK _ _ ?_;clear hK K)|(refine au ?_ ?_<;>intro hc<;>try exact jz)|refine cm (hi) ?_|refine aq ?_|exact jI|(clear hK K)))
 (refine cd [.tmp 4] ?_ ?_<;>(try simp only[go_sem]))
theorem Kz{p:ab}(h:nU p)(node:Int):∀(n:Nat) (b:Int) (s:VS),0<=b->b.toNat<p.aa.nodes.length->b.toNat<n->bX p.aa.nodes b=18->ll s<=1000000->s.1.length+300*b.toNat<=900000->
  af prog 221 (rI b::tz) (fE p node s) (fun r l'=>r=rB (jO p node n b s).1/\l'=fE p node (jO p node n b s).2)
 |0,b,s,h0,hl,hn,hk,ht,h1=>by omega
 |n+1,b,s,h0,hl,hn,hk,ht,h1=>by
  have ih:=Kz h node n;have sh:=h.aa.shape b.toNat hl;have ZK:=sh.1.block hk;have WA:=sh.2.1;have XK:=h.types;have V5:=h.slots;have hll:=Ap h b;have ha7:=h.aa.many;have key:∀(rr:Bool×VS) (sR:VS) (bR:Bool),mT (jO p node n) p node (ak p b).l s=rr->bR=rr.1->sR=(if rr.1=true then rr.2 else oL s.1.length rr.2)->af prog 221 (rI b::tz) (fE p node s) (fun r l'=>r=rB bR/\l'=fE p node sR):=by
   intro rr sR bR hrr ZS Zq;have hL0:(ak p b).l=(nth p.aa.nodes b.toNat).l:=rfl;rw[hL0]at hrr hll;generalize hL:(nth p.aa.nodes b.toNat).l=L at*;unfold ll at ht;refine aQ func221 ntmps221 ?_;refine S ?_
   (have W:=hL;repeat' (first|refine ar fun K hK=>?_|refine av ?_|(refine hK _ _ ?_;clear hK K)|(refine au ?_ ?_<;>intro hc<;>try exact jz)|refine aq ?_|exact jI|(clear hK K)))
   have Vc:=hK;clear hK;refine dJ (S:=Nat×VS) [(6,1),(9,2),(21,54)] (fun t=>t.1<=L.length/\ll t.2<=1000000/\t.2.1.length<=s.1.length+t.1/\s.1.length<=t.2.1.length/\mT (jO p node n) p node (L.drop t.1) t.2=rr) (fun t=>[(21,rI t.1),(6,rB false)]) (fun t=>⟨[1,2,3,4,7],fE p node t.2⟩) (fun t=>L.length-t.1) (0,s) ⟨Nat.zero_le _,ht,Nat.le_refl _,Nat.le_refl _,hrr⟩ (dK jD bU) ?_;rintro⟨k,t⟩ ⟨VA,htt,htl,htg,WZ⟩ Kr Vb;simp only at VA htt htl htg WZ ⊢;by_cases D':k<L.length
   rotate_left
   ·have Xz:k=L.length:=jB;subst Xz;rw[List.drop_length]at WZ;have WZ:rr=(false,t):=WZ.symm;subst WZ;have ZS:bR=false:=ZS;have Zq:sR=oL s.1.length t:=Zq;have Vf:(oL s.1.length t).1.length=s.1.length:=by unfold oL;simp;omega
    have WK:(oL s.1.length t).2.length+s.1.length=t.1.length+t.2.length:=by unfold oL;simp;omega
    have V7:(oL s.1.length t).1++(oL s.1.length t).2=t.1++t.2:=by unfold oL;simp[<-List.append_assoc]
    refine S ?_
    (repeat' (first|refine ar fun K hK=>?_|refine av ?_|(refine hK _ _ ?_;clear hK K)|(refine au ?_ ?_<;>intro hc<;>try exact jz)|refine Vc _ _ ?_|refine aq ?_|exact jI|(clear hK K)))
    subst ZS Zq
    (refine cd [.tmp 6] ?_ ?_<;>(try simp only[go_sem]))
    show[_,_,(3,_),(4,_),_]=[_,_,(3,_),(4,_),_];rw[<-List.map_append,<-List.map_append,V7,Vf,show s.1.length+(oL s.1.length t).2.length=t.1.length+t.2.length from jB]
   have hx:=ZK _ (fc D');have Zo:=WA _ (fc D');rw[lb D']at WZ;unfold mT at WZ;generalize ZA:nth L k=x at*;have Yv:x.toNat<p.aa.nodes.length:=jB;have shx:=h.aa.shape x.toNat Yv;have Ze:ak p x=nth p.aa.nodes x.toNat:=rfl;rw[Ze]at WZ;by_cases hxn:x=node
   ·rw[if_pos hxn]at WZ;subst WZ;have ZS:bR=true:=ZS;have Zq:sR=t:=Zq;subst ZS Zq;refine S ?_
    (have W:=jA ZA hxn;repeat' (first|refine ar fun K hK=>?_|refine av ?_|(refine hK _ _ ?_;clear hK K)|(refine au ?_ ?_<;>intro hc<;>try exact jz)|refine al 8 ?_|refine aq ?_|exact jI|(clear hK K)))
    (refine bq [.tmp 6] ?_;try simp only[go_sem])
   rw[if_neg hxn]at WZ;by_cases k10:(nth p.aa.nodes x.toNat).kind=10
   ·rw[if_pos k10]at WZ;obtain⟨a,ha,_⟩:=shx.1.right (.inl k10);have Yr:=shx.2.1 a (by rw[ha];simp);have ha0:nth (nth p.aa.nodes x.toNat).l 0=a:=by rw[ha];rfl
    have ha1:(nth p.aa.nodes x.toNat).l.length=1:=by rw[ha];rfl
    unfold ll at htt;refine S ?_
    (have W:=jA ZA (jA hxn (jA k10 (jA ha0 (ha1))));repeat' (first|refine ar fun K hK=>?_|refine av ?_|(with_reducible refine gR 9 ?_);refine dE 9 (bf 0 20) mixed ?_|(refine hK _ _ ?_;clear hK K)|(refine au ?_ ?_<;>intro hc<;>try exact jz)|refine al 8 ?_|refine sr (enc:=k7) t.1 t.2 [⟨(nth p.aa.nodes x.toNat).name,nth p.types a.toNat,nth p.slots x.toNat⟩] ?_|refine aq ?_|exact jI|(clear hK K)))
    have hvo:(⟨(nth p.aa.nodes x.toNat).name,nth p.types a.toNat,nth p.slots x.toNat⟩:bB)=qE p x:=by unfold qE;rw[Ze,ha0]
    rw[hvo];have YS:=JF (qE p x) t (T:=1000000) htt jB;refine Vb _ _ (nz [8] (k+1,sa (qE p x) t) ⟨by show k+1<=L.length;omega,YS,by show(t.1++[_]).length<=s.1.length+(k+1);simp;omega,by show s.1.length<=(t.1++[_]).length;simp;omega,WZ⟩ (by show L.length-(k+1)<L.length-k;omega) rfl Sd ?_ iQ);unfold fE sa;simp only[List.length_append,List.length_cons,List.length_nil,List.length_drop,List.map_append,List.map_cons,List.map_nil];rfl
   rw[if_neg k10]at WZ;by_cases kb:(nth p.aa.nodes x.toNat).kind=15\/(nth p.aa.nodes x.toNat).kind=16
   ·rw[if_pos kb]at WZ;have VI:∀y∈(nth p.aa.nodes x.toNat).l.drop 1,0<=y/\y.toNat<x.toNat/\bX p.aa.nodes y=18:=fun y hy=>by
     have YQ:y∈(nth p.aa.nodes x.toNat).l:=List.mem_of_mem_drop hy;have ZR:=shx.2.1 y YQ;refine⟨ZR.1,ZR.2,?_⟩;rcases kb with kb|kb
     ·obtain⟨a,c,_,hb,hl|⟨d,hl,hd⟩⟩:=shx.1.lg kb
      ·rw[hl]at hy;simp at hy;subst hy;exact hb
      ·rw[hl]at hy;simp at hy;rcases hy with rfl|rfl
       ·exact hb
       ·exact hd
     ·obtain⟨a,c,hl,_,hb⟩:=shx.1.ee kb;rw[hl]at hy;simp at hy;subst hy;exact hb
    have WO:1<=(nth p.aa.nodes x.toNat).l.length:=by
     rcases kb with kb|kb
     ·obtain⟨a,c,_,hb,hl|⟨d,hl,hd⟩⟩:=shx.1.lg kb<;>(rw[hl];simp)
     ·obtain⟨a,c,hl,_,hb⟩:=shx.1.ee kb;rw[hl];simp
    have hdt:List.take ((nth p.aa.nodes x.toNat).l.length-1) (List.drop 1 (nth p.aa.nodes x.toNat).l)=List.drop 1 (nth p.aa.nodes x.toNat).l:=List.take_of_length_le jE;have u':=Ap h x;rw[Ze]at u';have ZT:=Qd (p:=p) node (jO p node n) ((nth p.aa.nodes x.toNat).l.drop 1) t (fun u=>ll u<=1000000/\u.1.length<=s.1.length+300) jF ⟨htt,jB⟩
     (fun y hy u hu=>ih y u (VI y hy).1 (by have:=(VI y hy).2.1;omega) (by have:=(VI y hy).2.1;omega) (VI y hy).2.2 hu.1 (by have:=(VI y hy).2.1;have:=hu.2;omega))
     (fun y hy u hu hf=>⟨BK h node n y u (VI y hy).1 (by have:=(VI y hy).2.1;omega) (VI y hy).2.2 hu.1 (by have:=(VI y hy).2.1;have:=hu.2;omega),by rw[Hy hf];exact hu.2⟩)
    have Z7:=Cs (p:=p) (node:=node) (n:=n) (T:=s.1.length+300) (B:=x.toNat) (fun c u c0 c1 c2 c3 c4=>BK h node n c u c0 jB c2 c3 jB) ((nth p.aa.nodes x.toNat).l.drop 1) t VI htt jB;generalize kM (jO p node n) ((nth p.aa.nodes x.toNat).l.drop 1) t=KR at*;cases hKR:KR.1 with
    |true=>
     rw[if_pos hKR]at WZ;subst WZ;have ZS:bR=true:=ZS;have Zq:sR=KR.2:=Zq;subst ZS Zq;rw[hKR]at ZT;refine S ?_
     (have W:=jA ZA (jA hxn (jA k10 (hdt)));repeat' (first|refine ar fun K hK=>?_|refine av ?_|(with_reducible refine gR 10 ?_);refine dC 10 ([3,4],[],[72]) [] (bf 0 16) mixed ?_|(refine hK _ _ ?_;clear hK K)|(refine au ?_ ?_<;>intro hc<;>try exact jz)|refine al 8 ?_|(refine zy ZT ?_)|(refine gh ?_ ?_<;>intro hc<;>try exact jz)|refine aq ?_|exact jI|(clear hK K)))
     all_goals(refine bq [.tmp 6] ?_;try simp only[go_sem])
    |false=>
     have W5:=Z7.2 hKR;rw[if_neg (by rw[hKR];decide)]at WZ;rw[hKR]at ZT;refine S ?_
     (have W:=jA ZA (jA hxn (jA k10 (hdt)));repeat' (first|refine ar fun K hK=>?_|refine av ?_|(with_reducible refine gR 10 ?_);refine dC 10 ([3,4],[],[72]) [] (bf 0 16) mixed ?_|(refine hK _ _ ?_;clear hK K)|(refine au ?_ ?_<;>intro hc<;>try exact jz)|refine al 8 ?_|(refine zy ZT ?_)|(refine gh ?_ ?_<;>intro hc<;>try exact jz)|refine aq ?_|exact jI|(clear hK K)))
     all_goals refine Vb _ _ (nz [8] (k+1,KR.2) ⟨by show k+1<=L.length;omega,Z7.1,by show KR.2.1.length<=s.1.length+(k+1);rw[W5];omega,by show s.1.length<=KR.2.1.length;rw[W5];omega,WZ⟩ (by show L.length-(k+1)<L.length-k;omega) rfl Sd (by simp only[go_sem];(try rfl)) iQ)
   ·rw[if_neg kb]at WZ;have kb1:¬(nth p.aa.nodes x.toNat).kind=15:=fun h=>kb (.inl h)
    have kb2:¬(nth p.aa.nodes x.toNat).kind=16:=fun h=>kb (.inr h)
    refine S ?_
    (have W:=jA ZA (jA hxn (jA k10 (jA kb1 (kb2))));repeat' (first|refine ar fun K hK=>?_|refine av ?_|(with_reducible refine gR 10 ?_);refine dC 10 ([3,4],[],[72]) [] (bf 0 16) mixed ?_|(refine hK _ _ ?_;clear hK K)|(refine au ?_ ?_<;>intro hc<;>try exact jz)|refine al 8 ?_|refine aq ?_|exact jI|(clear hK K)))
    refine Vb _ _ (nz [8] (k+1,t) ⟨by show k+1<=L.length;omega,htt,by show t.1.length<=s.1.length+(k+1);omega,htg,WZ⟩ (by show L.length-(k+1)<L.length-k;omega) rfl Sd (by simp only[go_sem];(try rfl)) iQ)
  have Vk:=key _ _ _ rfl rfl rfl;unfold jO;cases e:(mT (jO p node n) p node (ak p b).l s).1 with
  |true=>rw[e]at Vk;simp only[if_true]at Vk ⊢;rw[e];exact Vk
  |false=>rw[e]at Vk;simp only[Bool.false_eq_true,if_false]at Vk ⊢;exact Vk
def AW{p:ab}(h:nU p)(VD:∀k,k<p.aa.nodes.length->0<=nth p.fn k/\nth p.fn k<p.aa.ao.length)(node:Int)(h0:0<=node)(h1:node.toNat<p.aa.nodes.length):aD prog 171 [.agg (cY p),rI node] (aM k7 3 (fL p node)):=by
 obtain⟨f0,f1⟩:=VD _ h1;have hlf:=h.fn;have ha7:=h.aa.many;have XO:(nth p.fn node.toNat).toNat<p.aa.ao.length:=jB;have Wf:=n7 h.aa XO;have X8:=h.aa.body _ (fc XO);have hps:=(h.aa.fn _ (fc XO)).2;have WL:=Dz (p:=p) (node:=node) p.aa.nodes.length (nth p.aa.ao (nth p.fn node.toNat).toNat).body (jQ (nth p.aa.ao (nth p.fn node.toNat).toNat).params 0,[]);have Xw:=Kz h node p.aa.nodes.length (nth p.aa.ao (nth p.fn node.toNat).toNat).body (jQ (nth p.aa.ao (nth p.fn node.toNat).toNat).params 0,[]) Wf.1 (by have:=Wf.1;have:=Wf.2;omega) (by have:=Wf.1;have:=Wf.2;omega) X8 (by unfold ll;rw[xw];simp;omega) (by show(jQ _ _).length+_<=_;rw[xw];have:=Wf.1;have:=Wf.2;omega);unfold fL;simp only at WL;generalize jK p node p.aa.nodes.length (nth p.aa.ao (nth p.fn node.toNat).toNat).body (jQ (nth p.aa.ao (nth p.fn node.toNat).toNat).params 0)=O at*;generalize jO p node p.aa.nodes.length (nth p.aa.ao (nth p.fn node.toNat).toNat).body (jQ (nth p.aa.ao (nth p.fn node.toNat).toNat).params 0,[])=R at*;generalize hF:nth p.fn node.toNat=g at*;generalize hG:nth p.aa.ao g.toNat=f at*;refine cB func171 ntmps171 ?_
 (have W:=jA hF hG;repeat' (first|refine ar fun K hK=>?_|refine av ?_|(with_reducible refine gR 1 ?_);refine dE 1 (bf 0 12) mixed ?_|(refine hK _ _ ?_;clear hK K)|(refine au ?_ ?_<;>intro hc<;>try exact jz)|refine bx 1 ?_|refine bx 2 ?_|refine al 5 ?_|refine al 3 ?_|(refine gh ?_ ?_<;>intro hc<;>try exact jz)|refine aq ?_|exact jI|(clear hK K)))
 refine iW (dI.fS 4 3 0 258 3 rfl jC rfl rfl) ?_
 (refine S ?_;try exact jI)
 have Vc:=hK;clear hK;have WM:∀k,(jQ (f.params.take k) 0).length=min k f.params.length:=fun k=>by rw[xw];simp
 refine dJ (S:=Nat) [(7,2),(23,15)] (fun k=>k<=f.params.length) (fun k=>[(23,rI k)]) (fun k=>⟨[],[(1,.var 32 (cY p)),(2,.var 3 [rI node]),(5,.var 181 (gg f)),(3,.var 184 [.rs 4 k 3 k]),(4,.aJ 258 3 ((jQ (f.params.take k) 0).map k7))]⟩) (fun k=>f.params.length-k) 0 jB (dK rfl bU) ?_;rintro k hk Kr Vb;have We:(jQ (f.params.take k) 0).length=k:=by rw[WM];omega
 by_cases D':k<f.params.length
 ·(refine S ?_;try exact jI)
  (have W:=We;repeat' (first|refine ar fun K hK=>?_|refine av ?_|(with_reducible refine gR 1 ?_);refine dE 1 (bf 0 12) mixed ?_|(refine hK _ _ ?_;clear hK K)|(refine au ?_ ?_<;>intro hc<;>try exact jz)|refine al 6 ?_|refine Vc _ _ ?_|(refine gh ?_ ?_<;>intro hc<;>try exact jz)|refine aq ?_|exact jI|(clear hK K)))
  refine Vb _ _ (nz [6] (k+1) jB (by show f.params.length-(k+1)<f.params.length-k;omega) rfl Sd ?_ iQ);show Hp.mk _ [_,_,_,_,_]=Hp.mk _ [_,_,_,_,(4,.aJ _ _ ((jQ (f.params.take (k+1)) 0).map k7))];rw[pj D',Ga,List.map_append];have:((0:Int)+(f.params.take k).length)=(k:Int):=by simp;omega
  rw[this];rfl
 ·have Xz:k=f.params.length:=jB;subst Xz;rw[List.take_length]at We ⊢;generalize jQ f.params 0=V at*;rw[<-We];cases hR:R.1 with
  |true=>
   cases O with
   |none=>rw[WL.1]at hR;cases hR
   |some W=>
    have hW:R.2.1=W:=WL.2;rw[hR]at Xw;refine S ?_
    (repeat' (first|refine ar fun K hK=>?_|refine av ?_|(with_reducible refine gR 1 ?_);refine dE 1 (bf 0 12) mixed ?_|(refine hK _ _ ?_;clear hK K)|(refine au ?_ ?_<;>intro hc<;>try exact jz)|refine al 7 ?_|(refine cl Xw ?_)|refine Vc _ _ ?_|(refine gh ?_ ?_<;>intro hc<;>try exact jz)|refine aq ?_|exact jI|(clear hK K)))
    subst hW;refine fy [.tmp 4] ?_;exact db.qe R.2.1 R.2.2 rfl (by show some (Row.aJ _ _ _)=some (Row.aJ _ _ _);rw[List.map_append]) rfl rfl
  |false=>
   cases O with
   |some W=>rw[WL.1]at hR;cases hR
   |none=>
    rw[hR]at Xw;refine S ?_
    (repeat' (first|refine ar fun K hK=>?_|refine av ?_|(with_reducible refine gR 1 ?_);refine dE 1 (bf 0 12) mixed ?_|(refine hK _ _ ?_;clear hK K)|(refine au ?_ ?_<;>intro hc<;>try exact jz)|refine al 7 ?_|(refine cl Xw ?_)|refine Vc _ _ ?_|(refine gh ?_ ?_<;>intro hc<;>try exact jz)|refine aq ?_|exact jI|(clear hK K)))
    refine fy [.tmp 4] ?_;exact db.nil _ _
end Go.Proofs.YtjpcgmjaipfgdaaGreatDoor
namespace Go.Proofs.YtjpcgmjaipfgdaaGreatDoor
open Go Go.Gd Tryz Go.Gd.MV
def sE(nm:U0)(v:aj):UT:=[(5,.var 9 [rS nm]),(7,.var 54 (bY v))]
attribute [go_sem] sE Bool.false_and Bool.true_and
def JM(nm:U0)(v:aj):∀i r,aC (sE nm v) i=some r->aY (fun i=>(ids (sE nm v)).contains i) r.cells=true:=fun i r h=>by
 unfold sE at h;simp only[aC]at h;split at h
 ·cases h;rfl
 ·split at h
  ·cases h;rfl
  ·cases h
def HN(nm:U0)(v:aj):(ids (sE nm v)).Nodup:=by simp[sE,ids]
def HC{e tl:UT}(U9:∀i,i<1000->aC e i=none){nm:U0}{v:aj}(h5:aC tl 5=some (.var 9 [rS nm]))(h7:aC tl 7=some (.var 54 (bY v))):∀i r,aC (sE nm v) i=some r->aC (tie e tl) i=some r:=fun i r h=>by
 unfold sE at h;simp only[aC]at h;split at h
 ·rename_i e;subst e;cases h;rw[ko,U9 5 jC];exact h5
 ·split at h
  ·rename_i e;subst e;cases h;rw[ko,U9 7 jC];exact h7
  ·cases h
def NU(nm:U0)(v:aj)(x:bB):af prog 173 [.agg (k7 x),.pt 5 0 0 0,.pt 7 0 0 0] (sE nm v) (fun r l=>r=rB (decide (x.name=nm/\x.ty=v.ty))/\l=sE nm v):=by
 suffices key:∀b,decide (x.name=nm/\x.ty=v.ty)=b->af prog 173 [.agg (k7 x),.pt 5 0 0 0,.pt 7 0 0 0] (sE nm v) (fun r l=>r=rB b/\l=sE nm v) from key _ rfl
 intro b hb;by_cases c1:x.name=nm
 ·by_cases c2:x.ty=v.ty
  ·rw[decide_eq_true ⟨c1,c2⟩]at hb;subst hb;refine aQ func173 ntmps173 ?_;refine S ?_
   (have W:=jA c1 c2;repeat' (first|refine ar fun K hK=>?_|refine av ?_|(refine hK _ _ ?_;clear hK K)|(refine au ?_ ?_<;>intro hc<;>try exact jz)|refine bx 9 ?_|(refine gh ?_ ?_<;>intro hc<;>try exact jz)|refine aq ?_|exact jI|(clear hK K)))
   (refine bq [.tmp 4] ?_;try simp only[go_sem])
  ·rw[decide_eq_false (fun h=>c2 h.2)]at hb;subst hb;refine aQ func173 ntmps173 ?_;refine S ?_
   (have W:=jA c1 c2;repeat' (first|refine ar fun K hK=>?_|refine av ?_|(refine hK _ _ ?_;clear hK K)|(refine au ?_ ?_<;>intro hc<;>try exact jz)|refine bx 9 ?_|(refine gh ?_ ?_<;>intro hc<;>try exact jz)|refine aq ?_|exact jI|(clear hK K)))
   (refine bq [.tmp 4] ?_;try simp only[go_sem])
 ·rw[decide_eq_false (fun h=>c1 h.1)]at hb;subst hb;refine aQ func173 ntmps173 ?_;refine S ?_
  (have W:=c1;repeat' (first|refine ar fun K hK=>?_|refine av ?_|(refine hK _ _ ?_;clear hK K)|(refine au ?_ ?_<;>intro hc<;>try exact jz)|refine bx 9 ?_|(refine gh ?_ ?_<;>intro hc<;>try exact jz)|refine aq ?_|exact jI|(clear hK K)))
  (refine bq [.tmp 4] ?_;try simp only[go_sem])
def IT(nm:U0)(v:aj)(L:List bB)(hL:L.length<=100000):af prog 172 [aM k7 3 L,.eW 173 [.pt 5 0 0 0,.pt 7 0 0 0]] (sE nm v) (fun r l=>r=rI (iD nm v.ty L 0)/\l=sE nm v):=by
 suffices key:∀z,iD nm v.ty L 0=z->af prog 172 [aM k7 3 L,.eW 173 [.pt 5 0 0 0,.pt 7 0 0 0]] (sE nm v) (fun r l=>r=rI z/\l=sE nm v) from key _ rfl
 intro z hz;refine aQ func172 ntmps172 ?_;refine S ?_
 (repeat' (first|refine ar fun K hK=>?_|refine av ?_|(refine hK _ _ ?_;clear hK K)|(refine au ?_ ?_<;>intro hc<;>try exact jz)|(refine gh ?_ ?_<;>intro hc<;>try exact jz)|refine aq ?_|exact jI|(clear hK K)))
 have Vc:=hK;clear hK;refine dJ (S:=Nat) [(4,2),(8,11)] (fun k=>k<=L.length/\∀j,j<k->¬((nth L j).name=nm/\(nth L j).ty=v.ty)) (fun k=>[(8,rI k)]) (fun _=>⟨[5,7],sE nm v⟩) (fun k=>L.length-k) 0 ⟨Nat.zero_le _,fun j h=>jB⟩ (dK rfl bU) ?_;rintro k ⟨hk,Vj⟩ Kr Vb;by_cases D':k<L.length
 ·have Vy:=NU nm v (nth L k);by_cases c:(nth L k).name=nm/\(nth L k).ty=v.ty
  ·rw[decide_eq_true c]at Vy;have:=MK D' c Vj;rw[hz]at this;subst this;refine S ?_
   (have W:=D';repeat' (first|refine ar fun K hK=>?_|refine av ?_|(refine hK _ _ ?_;clear hK K)|(refine au ?_ ?_<;>intro hc<;>try exact jz)|(refine cl Vy ?_)|refine Vc _ _ ?_|(refine gh ?_ ?_<;>intro hc<;>try exact jz)|refine aq ?_|exact jI|(clear hK K)))
   (refine bq [.tmp 4] ?_;try simp only[go_sem])
  ·rw[decide_eq_false c]at Vy;refine S ?_
   (have W:=D';repeat' (first|refine ar fun K hK=>?_|refine av ?_|(refine hK _ _ ?_;clear hK K)|(refine au ?_ ?_<;>intro hc<;>try exact jz)|(refine cl Vy ?_)|refine Vc _ _ ?_|(refine gh ?_ ?_<;>intro hc<;>try exact jz)|refine aq ?_|exact jI|(clear hK K)))
   exact Vb _ _ (dT (k+1) ⟨jB,fun j hj=>by
    by_cases e:j<k
    ·exact Vj j e
    ·rw[show j=k from jB];exact c⟩ (by show L.length-(k+1)<L.length-k;omega) rfl bU)
 ·have:=NT (nm:=nm) (ty:=v.ty) (l:=L) fun j hj=>Vj j jB
  rw[hz]at this;subst this;refine S ?_
  (have W:=D';repeat' (first|refine ar fun K hK=>?_|refine av ?_|(refine hK _ _ ?_;clear hK K)|(refine au ?_ ?_<;>intro hc<;>try exact jz)|refine Vc _ _ ?_|(refine gh ?_ ?_<;>intro hc<;>try exact jz)|refine aq ?_|exact jI|(clear hK K)))
  (refine bq [.tmp 4] ?_;try simp only[go_sem])
end Go.Proofs.YtjpcgmjaipfgdaaGreatDoor
namespace Go.Proofs.YtjpcgmjaipfgdaaGreatDoor
open Go Go.Gd Tryz
section
variable {p:ab}{s s':cS}
end
theorem CM{p:ab}(h:fO p):∀(j i:Nat),j<p.aa.ao.length->i<j->(nth p.aa.ao i).body.toNat<kW p.aa j
 |0,i,_,h2=>by omega
 |j+1,i,h1,h2=>by
  have hc:=(h.ao j jB).chain.le;have e:kW p.aa (j+1)=(nth p.aa.ao j).body.toNat+1:=by unfold kW;rw[jN];rfl
  rw[e];by_cases k:i=j
  ·subst k;omega
  ·have:=CM h j i jB jB;omega
variable{p:ab}
def N3(h:fO p){i j:Nat}(hi:i<p.aa.ao.length)(hj:j<p.aa.ao.length){a:Nat}(h1:kW p.aa i<=a)(h2:a<=(nth p.aa.ao i).body.toNat)(h3:kW p.aa j<=a)(h4:a<=(nth p.aa.ao j).body.toNat):i=j:=by
 rcases Nat.lt_trichotomy i j with k|k|k
 ·have:=CM h j i hj k;omega
 ·exact k
 ·have:=CM h i j hi k;omega
def tQ(p:ab)(j:Nat)(v:bB):Prop:=0<=v.slot/\v.slot<nth p.size j
def Oj(h:nU p){x:Int}(hx:x.toNat<p.aa.nodes.length)(kb:(nth p.aa.nodes x.toNat).kind=15\/(nth p.aa.nodes x.toNat).kind=16):∀y∈(nth p.aa.nodes x.toNat).l.drop 1,bX p.aa.nodes y=18:=fun y hy=>by
 have shx:=h.aa.shape x.toNat hx;rcases kb with kb|kb
 ·obtain⟨a,c,_,hb,hl|⟨d,hl,hd⟩⟩:=shx.1.lg kb
  ·rw[hl]at hy;simp at hy;subst hy;exact hb
  ·rw[hl]at hy;simp at hy;rcases hy with rfl|rfl
   ·exact hb
   ·exact hd
 ·obtain⟨a,c,hl,_,hb⟩:=shx.1.ee kb;rw[hl]at hy;simp at hy;subst hy;exact hb
theorem F1{p:ab}(h:fO p){j:Nat}(hj:j<p.aa.ao.length)(node:Int):∀(n:Nat) (b:Int) (vars R:List bB),lU p j ⟨b,0⟩->(∀v∈vars,tQ p j v)->jK p node n b vars=some R->(∀v∈R,tQ p j v)/\kW p.aa j<=node.toNat/\node.toNat<=(nth p.aa.ao j).body.toNat
 |0,b,vars,R,_,_,e=>by cases e
 |n+1,b,vars,R,hb,hv,e=>by
  have ih:=F1 h hj node n;have hf:=h.ao j hj;have aH:∀(l:UY) (vs R:List bB),(∀y∈l,lU p j ⟨y,0⟩)->(∀v∈vs,tQ p j v)->nF (jK p node n) vs l=some R->(∀v∈R,tQ p j v)/\kW p.aa j<=node.toNat/\node.toNat<=(nth p.aa.ao j).body.toNat:=fun l=>by
   induction l with
   |nil=>intro vs R _ _ e;cases e
   |cons y l ihl=>
    intro vs R hl WI e;unfold nF at e;cases e1:jK p node n y vs with
    |none=>rw[e1]at e;exact ihl vs R (fun z hz=>hl z (by simp[hz])) WI e
    |some R'=>rw[e1]at e;cases e;exact ih y vs _ (hl y jE) WI e1
  have sc:∀(l:UY) (vs R:List bB),(∀x∈l,x∈rG p b)->(∀v∈vs,tQ p j v)->oT (jK p node n) p node l vs=some R->(∀v∈R,tQ p j v)/\kW p.aa j<=node.toNat/\node.toNat<=(nth p.aa.ao j).body.toNat:=fun l=>by
   induction l with
   |nil=>intro vs R _ _ e;cases e
   |cons x l ihl=>
    intro vs R hx WI e;obtain⟨x0,x1,x2,x3⟩:=hb.aH h (by omega:(0:Int)<=j) jB (hx x jE);have x1:x.toNat<b.toNat:=x1;have x2:kW p.aa j<=x.toNat:=by rw[Int.toNat_natCast]at x2;exact x2
    have XX:b.toNat<=(nth p.aa.ao j).body.toNat:=by have:=hb.hi;rw[Int.toNat_natCast]at this;exact this
    have Wf:=n7 h.ok.aa hj;have Yv:x.toNat<p.aa.nodes.length:=by have:=Wf.1;have:=Wf.2;omega
    have YI:∀v∈k8 p x vs,tQ p j v:=fun v Vp=>by
     unfold k8 at Vp;split at Vp
     ·rename_i k10;rcases List.mem_append.1 Vp with Vp|Vp
      ·exact WI v Vp
      ·rw[List.mem_singleton]at Vp;subst Vp;have k10:(nth p.aa.nodes x.toNat).kind=10:=k10;exact hf.all x.toNat x2 jB (by unfold jM;omega)
     ·exact WI v Vp
    unfold oT at e;split at e
    ·rename_i ex;cases e;rw[<-ex];exact⟨WI,x2,jB⟩
    ·cases e1:(if(ak p x).kind=15\/(ak p x).kind=16 then nF (jK p node n) (k8 p x vs) ((ak p x).l.drop 1)else none)with
     |none=>rw[e1]at e;exact ihl _ R (fun y hy=>hx y (by simp[hy])) YI e
     |some R'=>
      rw[e1]at e;cases e;split at e1
      ·rename_i kb;refine aH _ _ _ (fun y hy=>?_) YI e1;have YQ:y∈(nth p.aa.nodes x.toNat).l:=List.mem_of_mem_drop hy;have ZR:=(h.ok.aa.shape x.toNat Yv).2.1 y YQ;have U9:=hf.chain.closed x.toNat x2 jB y YQ;exact⟨ZR.1,by rw[Int.toNat_natCast];exact U9,by rw[Int.toNat_natCast];show y.toNat<=_;omega,Oj h.ok Yv kb y hy,Int.le_refl _,by show(0:Int)<=_;omega⟩
      ·cases e1
  exact sc (ak p b).l vars R (fun x hx=>hx) hv e
theorem ID{z:Int}:∀(l:List bI) (i:Int),0<=i->i+l.length<=z->∀v∈jQ l i,0<=v.slot/\v.slot<z
 |[],i,_,_,v,hv=>by cases hv
 |x::l,i,h0,h1,v,hv=>by
  simp only[List.length_cons]at h1;simp only[jQ,List.mem_cons]at hv;rcases hv with rfl|hv
  ·exact⟨h0,by show i<z;omega⟩
  ·exact ID l (i+1) jB jB v hv
def Lq(h:fO p)(VD:∀k,k<p.aa.nodes.length->0<=nth p.fn k/\nth p.fn k<p.aa.ao.length){node:Int}(h1:node.toNat<p.aa.nodes.length){j:Nat}(hj:j<p.aa.ao.length)(h2:kW p.aa j<=node.toNat)(h3:node.toNat<=(nth p.aa.ao j).body.toNat):∀v∈fL p node,tQ p j v:=by
 obtain⟨f0,f1⟩:=VD _ h1;have XO:(nth p.fn node.toNat).toNat<p.aa.ao.length:=jB;have Wf:=n7 h.ok.aa XO;have hf:=h.ao _ XO;unfold fL;cases e:jK p node p.aa.nodes.length (nth p.aa.ao (nth p.fn node.toNat).toNat).body (jQ (nth p.aa.ao (nth p.fn node.toNat).toNat).params 0)with
 |none=>intro v hv;cases hv
 |some R=> obtain⟨a,b,c⟩:=F1 h XO node _ _ _ R ⟨Wf.1,by rw[Int.toNat_natCast];exact hf.chain.le,by rw[Int.toNat_natCast];exact Nat.le_refl _,h.ok.aa.body _ (fc XO),Int.le_refl _,by show(0:Int)<=_;omega⟩ (ID _ _ (Int.le_refl _) (by have:=hf.vy;omega)) e;rw[N3 h hj XO h2 h3 b c];exact a
def xp(h:nU p)(VD:∀k,k<p.aa.nodes.length->0<=nth p.fn k/\nth p.fn k<p.aa.ao.length){node:Int}(h1:node.toNat<p.aa.nodes.length):(fL p node).length<=100000:=by
 obtain⟨f0,f1⟩:=VD _ h1;have XO:(nth p.fn node.toNat).toNat<p.aa.ao.length:=jB;have hps:=(h.aa.fn _ (fc XO)).2;have hm:=h.aa.many;unfold fL;cases e:jK p node p.aa.nodes.length (nth p.aa.ao (nth p.fn node.toNat).toNat).body (jQ (nth p.aa.ao (nth p.fn node.toNat).toNat).params 0)with
 |none=>exact Nat.zero_le _
 |some R=> have:=G7 (Ap h) _ _ _ _ e;rw[xw]at this;show R.length<=_;omega
end Go.Proofs.YtjpcgmjaipfgdaaGreatDoor
namespace Go.Proofs.YtjpcgmjaipfgdaaGreatDoor
open Go Go.Gd Tryz Go.Gd.MV
def gx(C:aI)(m:MV):Int:=(nth (m.da C).calls ((m.da C).calls.length-1)).node
def fj(p:ab)(C:aI)(m:MV)(nm:U0)(v:aj):Option MV:=
 if(m.status=2\/m.status=3)\/lc v=false\/v.ty=4 then none
 else if iD nm v.ty (fL p (gx C m)) 0<0 then none
 else some (rz m (nth (fL p (gx C m)) (iD nm v.ty (fL p (gx C m)) 0).toNat).slot.toNat v)
section
variable {p:ab}{C:aI}{m:MV}{N:NM}{e:UT}(hR:bO p C m N e)(hk:uQ C m)(nm:U0)(v:aj)
include hR hk
theorem PO(h:(m.status=2\/m.status=3)\/lc v=false\/v.ty=4):de prog 116 [.agg (cY p),mP N,rS nm,.agg (bY v)] e (rB false) e:=by
 have WH:=wO hR hk;have U9:=hR.ok.low;have Zr:=uI v;have P':(m.da C).status=m.status:=rfl;refine⟨?_,hR.ok,hR.ok,fun _ h=>h,?_⟩;rotate_left
 ·simp only[aY,AV.all,gl hR.root,Bool.and_self,Bool.and_true,bY];rfl
 rw[<-P']at h;generalize m.da C=Sh at*;clear P';have hq:(Sh.status=2/\True/\True)\/(¬Sh.status=2/\Sh.status=3/\True)\/(¬Sh.status=2/\¬Sh.status=3/\lc v=false)\/(¬Sh.status=2/\¬Sh.status=3/\(lc v=true/\v.ty=4)):=by
  by_cases a:Sh.status=2
  ·exact .inl ⟨a,trivial,trivial⟩
  by_cases b:Sh.status=3
  ·exact .inr (.inl ⟨a,b,trivial⟩)
  cases c:lc v
  ·exact .inr (.inr (.inl ⟨a,b,rfl⟩))
  ·refine .inr (.inr (.inr ⟨a,b,rfl,?_⟩));rcases h with h|h|h
   ·omega
   ·rw[c]at h;cases h
   ·exact h
 rcases hq with⟨q1,q2,q3⟩|⟨q1,q2,q3⟩|⟨q1,q2,q3⟩|⟨q1,q2,q3,q4⟩
 all_goals try rw[q3]at Zr
 all_goals
  refine aQ (L:=ids e) func116 ntmps116 ?_ (hL:=rfl);generalize hB:ids e=B;refine fg ?_
  (have W:=jA U9 (jA q1 (q2));repeat' (first|refine ar fun K hK=>?_|refine av ?_|(with_reducible refine gR 4 ?_);refine dE 4 (bf 0 12) mixed ?_|(with_reducible refine gR 6 ?_);refine dE 6 (bf 0 13) mixed ?_|(refine hK _ _ ?_;clear hK K)|(refine au ?_ ?_<;>intro hc<;>try exact jz)|refine bv 4 ?_|refine bv 5 ?_|refine bv 7 ?_|refine cC 9 ?_|refine cp (Zr) ?_|refine cq (Zr) ?_|(refine⟨rB false,?_⟩;refine S ?_)|refine cT WH ?_|(refine gh ?_ ?_<;>intro hc<;>try exact jz)|refine aq ?_|exact jI|(clear hK K)))
  try(exact eO hB hR.ok hR.ok (tl:=[(4,.var 32 (cY p)),(5,.var 9 [rS nm]),(7,.var 54 (bY v)),(9,.var 45 (jS Sh))]) (fun _=>rfl) (dB jC (dB jC (dB jC (dB jC dO)))) [.tmp 8])
theorem KF(hs:fO p)(VD:∀k,k<p.aa.nodes.length->0<=nth p.fn k/\nth p.fn k<p.aa.ao.length)(hM:MI p C m)(h2:¬(m.status=2\/m.status=3)):1<=m.calls.length/\(m.da C).calls.length=m.calls.length/\0<=gx C m/\(gx C m).toNat<p.aa.nodes.length/\∀x∈fL p (gx C m),0<=x.slot/\x.slot<m.ah.slots.length:=by
 obtain⟨h1,_,_,_⟩:=hM.ah fun e=>h2 (.inl e)
 have hl:(m.da C).calls.length=m.calls.length:=by show((List.range m.calls.length).map _).length=_;simp
 have hn:nth (m.da C).calls ((m.da C).calls.length-1)=m.spot C (m.calls.length-1):=by rw[hl];show nth ((List.range m.calls.length).map (m.spot C)) (m.calls.length-1)=_;rw[fA jF];simp
 have YZ:=zc hM (k:=m.calls.length-1) jB;have ht:gx C m=(m.spot C (m.calls.length-1)).node:=by unfold gx;rw[hn]
 have f0:=YZ.f0;have f1:=YZ.f1;refine⟨h1,hl,by rw[ht];exact YZ.n0,by rw[ht];exact YZ.n1,fun x hx=>?_⟩;rw[ht]at hx;obtain⟨a,b⟩:=Lq hs VD YZ.n1 (j:=(m.spot C (m.calls.length-1)).fn.toNat) jB YZ.in_.1 YZ.in_.2 x hx;exact⟨a,by have:=YZ.sl;show x.slot<((m.spot C (m.calls.length-1)).slots.length:Int);omega⟩
theorem KW(hs:fO p)(VD:∀k,k<p.aa.nodes.length->0<=nth p.fn k/\nth p.fn k<p.aa.ao.length)(hM:MI p C m)(h2:¬(m.status=2\/m.status=3))(hm:lc v=true)(h4:¬v.ty=4)(hf:iD nm v.ty (fL p (gx C m)) 0<0):de prog 116 [.agg (cY p),mP N,rS nm,.agg (bY v)] e (rB false) e:=by
 have WH:=wO hR hk;have U9:=hR.ok.low;have Zr:=uI v;rw[hm]at Zr;obtain⟨h1,hl,n0,n1,_⟩:=KF hR hk hs VD hM h2;have hvc:=AW hs.ok VD (gx C m) n0 n1;have YL:=xp hs.ok VD n1;have XC:=IT nm v (fL p (gx C m)) jB;generalize iD nm v.ty (fL p (gx C m)) 0=z at*;generalize fL p (gx C m)=V at*;have hc8:m.calls.length<=1000:=by have:=hk.1;omega
 refine⟨?_,hR.ok,hR.ok,fun _ h=>h,?_⟩;rotate_left
 ·simp only[aY,AV.all,gl hR.root,Bool.and_self,Bool.and_true,bY];rfl
 have q1:¬(m.da C).status=2:=fun e=>h2 (.inl e)
 have q2:¬(m.da C).status=3:=fun e=>h2 (.inr e)
 have e1:(((m.da C).calls.length:Int)-1).toNat=(m.da C).calls.length-1:=jB;have g1:(m.da C).calls.length-1<(m.da C).calls.length:=jB;have g2:0<=((m.da C).calls.length:Int)-1:=jB;have et:(nth (m.da C).calls ((m.da C).calls.length-1)).node=gx C m:=rfl;have hz:¬z >= 0:=jB;generalize gx C m=a at*;generalize m.da C=Sh at*;refine aQ (L:=ids e) func116 ntmps116 ?_ (hL:=rfl);generalize hB:ids e=B;refine fg ?_
 (have W:=jA U9 (jA q1 (jA q2 (jA h4 (jA e1 (jA g1 (jA g2 (jA et (hz))))))));repeat' (first|refine ar fun K hK=>?_|refine av ?_|(with_reducible refine gR 4 ?_);refine dE 4 (bf 0 12) mixed ?_|(with_reducible refine gR 6 ?_);refine dE 6 (bf 0 13) mixed ?_|(refine hK _ _ ?_;clear hK K)|(refine au ?_ ?_<;>intro hc<;>try exact jz)|refine bv 4 ?_|refine bv 5 ?_|refine bv 7 ?_|refine cC 9 ?_|refine cp (Zr) ?_|refine cq (Zr) ?_|refine cp (hvc) ?_|(refine Jq XC (HC U9 rfl rfl) rfl (JM nm v) (HN nm v) ?_;try refine S ?_)|(refine⟨rB false,?_⟩;refine S ?_)|refine cT WH ?_|(refine gh ?_ ?_<;>intro hc<;>try exact jz)|refine aq ?_|exact jI|(clear hK K)))
 exact eO hB hR.ok hR.ok (tl:=[(4,.var 32 (cY p)),(5,.var 9 [rS nm]),(7,.var 54 (bY v)),(9,.var 45 (jS Sh))]) (fun _=>rfl) (dB jC (dB jC (dB jC (dB jC dO)))) [.tmp 8]
theorem Hb(hs:fO p)(VD:∀k,k<p.aa.nodes.length->0<=nth p.fn k/\nth p.fn k<p.aa.ao.length)(hM:MI p C m)(h2:¬(m.status=2\/m.status=3))(hm:lc v=true)(h4:¬v.ty=4)(hf:¬iD nm v.ty (fL p (gx C m)) 0<0) :
  de prog 116 [.agg (cY p),mP N,rS nm,.agg (bY v)] e (rB true) (bp e (hn 1 N.ah.c) (.aJ 54 3 ((m.ah.slots.set (nth (fL p (gx C m)) (iD nm v.ty (fL p (gx C m)) 0).toNat).slot.toNat v).map bY)))/\
   bO p C (rz m (nth (fL p (gx C m)) (iD nm v.ty (fL p (gx C m)) 0).toNat).slot.toNat v) N (bp e (hn 1 N.ah.c) (.aJ 54 3 ((m.ah.slots.set (nth (fL p (gx C m)) (iD nm v.ty (fL p (gx C m)) 0).toNat).slot.toNat v).map bY))):=by
 have WH:=wO hR hk;have U9:=hR.ok.low;have Zr:=uI v;rw[hm]at Zr;obtain⟨h1,hl,n0,n1,V5⟩:=KF hR hk hs VD hM h2;have hvc:=AW hs.ok VD (gx C m) n0 n1;have YL:=xp hs.ok VD n1;have XC:=IT nm v (fL p (gx C m)) jB;obtain⟨k0,ek,Vo,_,_⟩:=yN nm v.ty (fL p (gx C m)) 0 (by show 0<=iD nm v.ty (fL p (gx C m)) 0;omega);have ek:iD nm v.ty (fL p (gx C m)) 0=0+(k0:Int):=ek;rw[Int.zero_add]at ek;obtain⟨YU,hs2⟩:=V5 _ (fc Vo);rw[ek,Int.toNat_natCast];rw[ek]at XC;clear hf ek V5;have Vv:=hk;obtain⟨_,_,s3,_⟩:=Vv;have Xe:=s3 (m.calls.length-1) jB;have Xe:m.ah.slots.length<=1000:=by have:(nth m.calls (m.calls.length-1)).slots.length=m.ah.slots.length:=rfl;omega
 obtain⟨kk,ekk⟩:∃kk:Nat,(nth (fL p (gx C m)) k0).slot=(kk:Int):=⟨(nth (fL p (gx C m)) k0).slot.toNat,jB⟩;rw[ekk,Int.toNat_natCast];obtain⟨WI,VZ⟩:=MA hR h2 h1 kk jB Xe v;refine⟨?_,VZ⟩;have k2:=VZ.ok;have hkp:=WI.aW;have u':∀X Y,Dx ([hn 1 N.ah.c],X,Y) e (bp e (hn 1 N.ah.c) (.aJ 54 3 ((m.ah.slots.set kk v).map bY))):=fun X Y j hj _=>.inl (by rw[bP,if_neg];rintro rfl;simp at hj)
 generalize bp e (hn 1 N.ah.c) (.aJ 54 3 ((m.ah.slots.set kk v).map bY))=E at*;clear VZ;generalize fL p (gx C m)=V at*;have hc8:m.calls.length<=1000:=by have:=hk.1;omega
 refine⟨?_,hR.ok,k2,hkp,?_⟩;rotate_left
 ·simp only[aY,AV.all,gl hR.root,Bool.and_self,Bool.and_true,bY];rfl
 have q1:¬(m.da C).status=2:=fun e=>h2 (.inl e)
 have q2:¬(m.da C).status=3:=fun e=>h2 (.inr e)
 have e1:(((m.da C).calls.length:Int)-1).toNat=(m.da C).calls.length-1:=jB;have g1:(m.da C).calls.length-1<(m.da C).calls.length:=jB;have g2:0<=((m.da C).calls.length:Int)-1:=jB;have et:(nth (m.da C).calls ((m.da C).calls.length-1)).node=gx C m:=rfl;have hz:(k0:Int) >= 0:=jB;generalize gx C m=a at*;generalize m.da C=Sh at*;refine aQ (L:=ids e) func116 ntmps116 ?_ (hL:=rfl);generalize hB:ids e=B;refine fg ?_
 (have W:=jA U9 (jA q1 (jA q2 (jA h4 (jA e1 (jA g1 (jA g2 (jA et (jA hz (jA Vo (ekk))))))))));repeat' (first|refine ar fun K hK=>?_|refine av ?_|(with_reducible refine gR 4 ?_);refine dE 4 (bf 0 12) mixed ?_|(with_reducible refine gR 6 ?_);refine qw 6 [hn 1 N.ah.c] [] [56] [] (bf 0 13) mixed ?_|(refine hK _ _ ?_;clear hK K)|(refine au ?_ ?_<;>intro hc<;>try exact jz)|refine bv 4 ?_|refine bv 5 ?_|refine bv 7 ?_|refine cC 9 ?_|refine cp (Zr) ?_|refine cq (Zr) ?_|refine cp (hvc) ?_|(refine Jq XC (HC U9 rfl rfl) rfl (JM nm v) (HN nm v) ?_;try refine S ?_)|(refine o8 WI (u' _ _) ?_)|refine cT WH ?_|(refine gh ?_ ?_<;>intro hc<;>try exact jz)|refine aq ?_|exact jI|(clear hK K)))
 exact eO hB hR.ok k2 (tl:=[(4,.var 32 (cY p)),(5,.var 9 [rS nm]),(7,.var 54 (bY v)),(9,.var 45 (jS Sh))]) (fun _=>rfl) (dB jC (dB jC (dB jC (dB jC dO)))) [.tmp 8]
end
end Go.Proofs.YtjpcgmjaipfgdaaGreatDoor
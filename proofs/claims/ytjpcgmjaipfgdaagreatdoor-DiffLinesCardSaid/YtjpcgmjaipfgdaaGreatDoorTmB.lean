/- Lemmas. No conditions. -/
import Derived.Test.YtjpcgmjaipfgdaaGreatDoorWfC
set_option linter.all false
set_option maxHeartbeats 4000000
set_option maxRecDepth 10000
namespace Go.Gd
open Go
def iA(name:UX)(ty:Int):List ba->Int->Int
 |[],_=>-1
 |v::l,i=>if v.name=name/\v.ty=ty then i else iA name ty l (i+1)
theorem GQ(name:UX)(ty:Int):∀(l:List ba) (i:Int),0<=i->(iA name ty l i=-1\/(i<=iA name ty l i/\iA name ty l i<i+l.length))
 |[],i,_=>.inl rfl
 |v::l,i,h=>by
  unfold iA;split
  ·right;simp only[List.length_cons];omega
  ·rcases GQ name ty l (i+1) jB with e|e
   ·exact .inl e
   ·right;simp only[List.length_cons];omega
theorem Av(name:UX)(ty:Int):∀(l:List ba) (i:Nat),0<=iA name ty l (i:Int)->∃k:Nat,iA name ty l (i:Int)=(i:Int)+k/\k<l.length/\((nth l k).name=name/\(nth l k).ty=ty)/\∀j,j<k->¬((nth l j).name=name/\(nth l j).ty=ty)
 |[],i,h=>by unfold iA at h;omega
 |v::l,i,h=>by
  unfold iA at h ⊢;by_cases c:v.name=name/\v.ty=ty
  ·rw[if_pos c];exact⟨0,jB,jE,c,fun j hj=>jB⟩
  ·rw[if_neg c]at h ⊢;obtain⟨k,e,hk,g,f⟩:=Av name ty l (i+1) (by push_cast;exact h);refine⟨k+1,by push_cast at e ⊢;omega,by simp;omega,g,fun j hj=>?_⟩;cases j with
   |zero=>exact c
   |succ j=>exact f j jB
theorem DR(name:UX)(ty:Int):∀(l:List ba) (i:Nat),iA name ty l (i:Int)<0->∀j,j<l.length->¬((nth l j).name=name/\(nth l j).ty=ty)
 |[],i,h,j,hj=>by simp at hj
 |v::l,i,h,j,hj=>by
  unfold iA at h;by_cases c:v.name=name/\v.ty=ty
  ·rw[if_pos c]at h;omega
  ·rw[if_neg c]at h;cases j with
   |zero=>exact c
   |succ j=>exact DR name ty l (i+1) (by push_cast;exact h) j (by simpa using hj)
section
variable {σ:Type}(tm:σ->Int)(st:σ->σ)(se:σ->UX->aj->Option σ)(E:List aP)
def fQ:Nat->σ->Nat->Bool->σ×Nat×Bool
 |0,s,k,b=>(s,k,b)
 |n+1,s,k,b=>
  if b=false/\k<E.length/\(nth E k).at_=tm s then
   match se s (nth E k).name (nth E k).v with
   |some s'=>fQ n s' (k+1) false
   |none=>(s,k,true)
  else(s,k,b)
def jy(t:Int):Nat->σ->Nat->Bool->σ×Nat×Bool
 |0,s,k,b=>(s,k,b)
 |n+1,s,k,b=>
  if tm (fQ tm se E (E.length+1) s k b).1=t then fQ tm se E (E.length+1) s k b
  else if tm (st (fQ tm se E (E.length+1) s k b).1)=tm (fQ tm se E (E.length+1) s k b).1 then(st (fQ tm se E (E.length+1) s k b).1,(fQ tm se E (E.length+1) s k b).2)
  else jy t n (st (fQ tm se E (E.length+1) s k b).1) (fQ tm se E (E.length+1) s k b).2.1 (fQ tm se E (E.length+1) s k b).2.2
def pI(t:Int)(r:σ×Nat×Bool):Int:=if r.2.1<E.length/\(nth E r.2.1).at_<=t then r.2.1+1 else 0
end
def fq(t:Int):Int:=min (max t 0) 200
section
variable {σ:Type}{tm:σ->Int}{st:σ->σ}{se:σ->UX->aj->Option σ}{E:List aP}
structure pj(tm:σ->Int)(st:σ->σ)(se:σ->ByteArray->aj->Option σ)(E:List aP)(I:σ->Prop):Prop where
 se:∀s k s',I s->k<E.length->se s (nth E k).name (nth E k).v=some s'->I s'/\tm s'=tm s
 st:∀s,I s->tm s<200->I (st s)/\(tm (st s)=tm s\/tm (st s)=tm s+1)
 tm:∀s,I s->0<=tm s
variable {I:σ->Prop}
theorem yZ(h:pj tm st se E I):∀(n:Nat) (s:σ) (k:Nat) (b:Bool),I s->I (fQ tm se E n s k b).1/\tm (fQ tm se E n s k b).1=tm s/\k<=(fQ tm se E n s k b).2.1/\(k<=E.length->(fQ tm se E n s k b).2.1<=E.length)
 |0,s,k,b,hs=>⟨hs,rfl,Nat.le_refl _,fun h=>h⟩
 |n+1,s,k,b,hs=>by
  unfold fQ;split
  ·rename_i hc;split
   ·rename_i s' Yi;obtain⟨a1,a2⟩:=h.se s k s' hs hc.2.1 Yi;obtain⟨b1,b2,b3,b4⟩:=yZ h n s' (k+1) false a1;exact⟨b1,b2.trans a2,jB,fun _=>b4 jB⟩
   ·exact⟨hs,rfl,Nat.le_refl _,fun h=>h⟩
  ·exact⟨hs,rfl,Nat.le_refl _,fun h=>h⟩
theorem yS(h:pj tm st se E I){t:Int}(ht:t<=200):∀(n:Nat) (s:σ) (k:Nat) (b:Bool),I s->tm s<=t->k<=E.length->I (jy tm st se E t n s k b).1/\(jy tm st se E t n s k b).2.1<=E.length/\tm (jy tm st se E t n s k b).1<=t/\k<=(jy tm st se E t n s k b).2.1
 |0,s,k,b,hs,h1,hk=>⟨hs,hk,h1,Nat.le_refl _⟩
 |n+1,s,k,b,hs,h1,hk=>by
  obtain⟨a1,a2,a3,a4⟩:=yZ h (E.length+1) s k b hs;unfold jy;split
  ·exact⟨a1,a4 hk,jB,a3⟩
  rename_i VZ;have I':tm (fQ tm se E (E.length+1) s k b).1<200:=jB;obtain⟨c1,c2⟩:=h.st _ a1 I';split
  ·exact⟨c1,a4 hk,by show tm (st (fQ tm se E (E.length+1) s k b).1)<=t;omega,a3⟩
  ·rename_i hne2;obtain⟨d1,d2,d3,d4⟩:=yS h ht n _ (fQ tm se E (E.length+1) s k b).2.1 (fQ tm se E (E.length+1) s k b).2.2 c1 jB (a4 hk);exact⟨d1,d2,d3,jB⟩
end
abbrev VS:=List ba×List ba
def rb(x:ba)(s:VS):VS:=(s.1++[x],s.2.drop 1)
def oP(m:Nat)(s:VS):VS:=(s.1.take m,s.1.drop m++s.2)
def kR(w:Int->VS->Bool×VS):UU->VS->Bool×VS
 |[],s=>(false,s)
 |b::l,s=>if(w b s).1=true then(true,(w b s).2)else kR w l (w b s).2
def nt(w:Int->VS->Bool×VS)(p:ah)(node:Int):UU->VS->Bool×VS
 |[],s=>(false,s)
 |x::l,s=>
  if x=node then(true,s)
  else if(ap p x).kind=10 then nt w p node l (rb (pz p x) s)
  else if(ap p x).kind=15\/(ap p x).kind=16 then
   (if(kR w ((ap p x).l.drop 1) s).1=true then(true,(kR w ((ap p x).l.drop 1) s).2)else nt w p node l (kR w ((ap p x).l.drop 1) s).2)
  else nt w p node l s
def jt(p:ah)(node:Int):Nat->Int->VS->Bool×VS
 |0,_,s=>(false,s)
 |n+1,b,s=>if(nt (jt p node n) p node (ap p b).l s).1=true then nt (jt p node n) p node (ap p b).l s else(false,oP s.1.length (nt (jt p node n) p node (ap p b).l s).2)
def yu(s:VS)(o:Option (List ba))(r:Bool×VS):Prop:=match o with
 |some R=>r.1=true/\r.2.1=R
 |none=>r.1=false/\r.2.1=s.1
theorem GA{w:Int->VS->Bool×VS}{v:Int->List ba->Option (List ba)}(h:∀b s,yu s (v b s.1) (w b s)):∀(l:UU) (s:VS),yu s (ld v s.1 l) (kR w l s)
 |[],s=>⟨rfl,rfl⟩
 |b::l,s=>by
  have hb:=h b s;unfold ld kR;cases e:v b s.1 with
  |some R=> rw[e]at hb;rw[if_pos hb.1];exact⟨rfl,hb.2⟩
  |none=>
   rw[e]at hb;rw[if_neg (by rw[hb.1];decide),Option.none_or];have:=GA h l (w b s).2;rw[hb.2]at this;unfold yu at this ⊢;rw[<-hb.2];rw[hb.2];cases e2:ld v s.1 l with
   |some R=>rw[e2]at this;exact this
   |none=>rw[e2]at this;exact⟨this.1,this.2.trans hb.2⟩
def QB(s:VS)(o:Option (List ba))(r:Bool×VS):Prop:=match o with
 |some R=>r.1=true/\r.2.1=R
 |none=>r.1=false/\r.2.1.take s.1.length=s.1
theorem zj{p:ah}{node:Int}{w:Int->VS->Bool×VS}{v:Int->List ba->Option (List ba)}(h:∀b s,yu s (v b s.1) (w b s)):∀(l:UU) (s:VS),QB s (mV v p node l s.1) (nt w p node l s)
 |[],s=>⟨rfl,List.take_length⟩
 |x::l,s=>by
  unfold mV nt;by_cases hx:x=node
  ·rw[if_pos hx,if_pos hx];exact⟨rfl,rfl⟩
  rw[if_neg hx,if_neg hx];by_cases k10:(ap p x).kind=10
  ·rw[if_pos k10,jN,Option.none_or];have:=zj (p:=p) (node:=node) h l (rb (pz p x) s);have e:(rb (pz p x) s).1=iC p x s.1:=by unfold iC;rw[if_pos k10];rfl
   rw[e]at this;cases e2:mV v p node l (iC p x s.1)with
   |some R=>rw[e2]at this;exact this
   |none=>
    rw[e2]at this;refine⟨this.1,?_⟩;have h2:=this.2;rw[e]at h2;have h3:(iC p x s.1).take s.1.length=s.1:=by unfold iC;rw[if_pos k10,List.take_left]
    have hl:s.1.length<=(iC p x s.1).length:=by unfold iC;rw[if_pos k10];simp
    have h4:(nt w p node l (rb (pz p x) s)).2.1.take s.1.length=((nt w p node l (rb (pz p x) s)).2.1.take (iC p x s.1).length).take s.1.length:=by rw[List.take_take,Nat.min_eq_left hl]
    rw[h4,h2,h3]
  rw[if_neg k10];have hl:iC p x s.1=s.1:=by unfold iC;rw[if_neg k10]
  rw[hl];by_cases kb:(ap p x).kind=15\/(ap p x).kind=16
  ·rw[if_pos kb,if_pos kb];have hk:=GA h ((ap p x).l.drop 1) s;cases e:ld v s.1 ((ap p x).l.drop 1)with
   |some R=>rw[e]at hk;rw[if_pos hk.1];exact⟨rfl,hk.2⟩
   |none=>
    rw[e]at hk;rw[if_neg (by rw[hk.1];decide),Option.none_or];have:=zj (p:=p) (node:=node) h l (kR w ((ap p x).l.drop 1) s).2;rw[hk.2]at this;cases e2:mV v p node l s.1 with
    |some R=>rw[e2]at this;exact this
    |none=>rw[e2]at this;refine⟨this.1,?_⟩;have h2:=this.2;rw[hk.2]at h2;exact h2
  ·rw[if_neg kb,if_neg kb,Option.none_or];exact zj (p:=p) (node:=node) h l s
theorem Ch{p:ah}{node:Int}:∀(n:Nat) (b:Int) (s:VS),yu s (gv p node n b s.1) (jt p node n b s)
 |0,b,s=>⟨rfl,rfl⟩
 |n+1,b,s=>by
  have:=zj (p:=p) (node:=node) (Ch (p:=p) (node:=node) n) (ap p b).l s;unfold gv jt;cases e:mV (gv p node n) p node (ap p b).l s.1 with
  |some R=>rw[e]at this;rw[if_pos this.1];exact this
  |none=>rw[e]at this;rw[if_neg (by rw[this.1];decide)];exact⟨rfl,this.2⟩
def lA(s:VS):Nat:=s.1.length+s.2.length
def HX(x:ba)(s:VS){T:Nat}(h:lA s<=T)(h1:s.1.length+1<=T):lA (rb x s)<=T:=by unfold lA rb at*;simp only[List.length_append,List.length_cons,List.length_nil,List.length_drop];omega
def Rg(m:Nat)(s:VS):lA (oP m s)=lA s:=by unfold lA oP;simp only[List.length_append,List.length_take,List.length_drop];omega
def HU{p:ah}{node:Int}{n:Nat}{b:Int}{s:VS}(h:(jt p node n b s).1=false):(jt p node n b s).2.1=s.1:=by
 have:=Ch (p:=p) (node:=node) n b s;cases e:gv p node n b s.1 with
 |some R=>rw[e]at this;rw[this.1]at h;cases h
 |none=>rw[e]at this;exact this.2
def qJ(w:Int->VS->Bool×VS):UU->VS->Int->Int
 |[],_,_=>-1
 |b::l,s,i=>if(w b s).1=true then i else qJ w l (w b s).2 (i+1)
theorem HG(w:Int->VS->Bool×VS):∀(l:UU) (s:VS) (i:Int),0<=i->(kR w l s).1=decide (0<=qJ w l s i)
 |[],s,i,_=>rfl
 |b::l,s,i,h=>by
  unfold kR qJ;split
  ·exact(decide_eq_true h).symm
  ·exact HG w l _ (i+1) jB
def HD(w:Int->VS->Bool×VS)(b:Int)(l:UU)(s:VS):kR w (b::l) s=if(w b s).1=true then(true,(w b s).2)else kR w l (w b s).2:=by conv=>lhs;unfold kR
def Si(w:Int->VS->Bool×VS)(b:Int)(l:UU)(s:VS)(i:Int):qJ w (b::l) s i=if(w b s).1=true then i else qJ w l (w b s).2 (i+1):=by conv=>lhs;unfold qJ
@[go_sem] def j3G(f:FuncId)(cs:US):(AV.eT f cs).cells=[.eT f cs]:=(rfl)
@[go_sem] def j9x(f:FuncId)(cs:US):(AV.eT f cs).one=true:=by simp[AV.one]
@[go_sem] def j6q(i:Nat):(AV.mr i).cells=[.mr i]:=(rfl)
@[go_sem] def qdi(i:Nat):(AV.mr i).one=true:=by simp[AV.one]
def O8{nm:UX}{ty:Int}{l:List ba}{k:Nat}(hk:k<l.length)(VL:(nth l k).name=nm/\(nth l k).ty=ty)(Vd:∀j,j<k->¬((nth l j).name=nm/\(nth l j).ty=ty)):iA nm ty l 0=(k:Int):=by
 by_cases h:0<=iA nm ty l 0
 ·obtain⟨j,e,hj,g,f⟩:=Av nm ty l 0 h;have e:iA nm ty l 0=0+(j:Int):=e;rcases Nat.lt_trichotomy j k with c|c|c
  ·exact(Vd j c g).elim
  ·omega
  ·exact(f k c VL).elim
 ·exact(DR nm ty l 0 (by show iA nm ty l 0<0;omega) k hk VL).elim
def Qo{nm:UX}{ty:Int}{l:List ba}(Vd:∀j,j<l.length->¬((nth l j).name=nm/\(nth l j).ty=ty)):iA nm ty l 0=-1:=by
 rcases GQ nm ty l 0 (Int.le_refl 0)with e|⟨a,b⟩
 ·exact e
 ·obtain⟨j,e,hj,g,f⟩:=Av nm ty l 0 a;exact(Vd j hj g).elim
def Gm{P:U3}{f:FuncId}{args:US}{s L:UR}{B:UW}{K:UP}{r0:AV}(hc:ab P f args s fun r l=>r=r0/\l=s)(hs:∀i r,az s i=some r->az L i=some r)(ha:aR (fun i=>(ids s).contains i) args=true)(U9:∀i r,az s i=some r->aR (fun i=>(ids s).contains i) r.cells=true)(hn:(ids s).Nodup)(k:K r0 ⟨B,L⟩)(h0:aW P f=true:=by exact dz):eQ P (.raw (.func (.func f) #[] #[])) args ⟨B,L⟩ K:=by
 refine nS h0 fun w vs h1 h3=>?_
 refine(zC (H:=⟨B,L⟩) (K:=fun r H'=>r=r0/\∃l',H'=⟨B,l'⟩/\∀i,az l' i=az L i) hc hs ha U9 (fun r l' ⟨e1,e2⟩=>⟨fun i s' Yi=>?_,by rw[e2];exact hn,e1,_,rfl,fun i=>?_⟩) h1 h3).mono ?_
 ·subst e2;exact .inl (tW Yi)
 ·subst e2;rw[ud _ _ _ (fun _ _ _=>trivial) hn];cases e:az l' i with
  |none=>rfl
  |some x=>rw[hs i x e];rfl
 ·rintro e W ⟨v,r,H',w',rfl,rfl,⟨rfl,l',rfl,Wv⟩,g1,g2,g3⟩;exact⟨v,_,⟨B,L⟩,w',rfl,rfl,k,DA Wv g1,g2,{ g3 with base:=g3.base }⟩
end Go.Gd
namespace Go.Proofs.YtjpcgmjaipfgdaaGreatDoor
open Go Go.Gd Tryz
def xV(p:ah)(C:aE):Prop:=∀j,j<p.aa.ak.length->∃k:Nat,nth C.entry j=(k:Int)/\dU p C j k
section
variable {p:ah}{C:aE}{inp:UU}
theorem JJ{M:MV}(hs:gF p)(hM:ff p C M){j:Nat}(hj:j<p.aa.ak.length){n:Nat}(c:MC)(VX:(c.slots.length:Int)=nth p.size j)(X4:nk c.slots) :
  ∀(L:UU) (Wn:List aj) (k q:Nat),(∀x∈L,0<=x/\x.toNat<p.aa.nodes.length/\jL p j x/\cF (bT p.aa.nodes x)/\x.toNat<n)->bJ C.ins k (bv (bg p n) k L [])->(∀v∈Wn,im v)->Wn.length+L.length<=10->
   (∃vs q',vs.length=L.length/\(∀v∈vs,im v)/\bh p C inp (M.aX { c with at_:=(k:Int),stack:=Wn,aQ:=q }) (M.aX { c with at_:=((k+(bv (bg p n) k L []).length:Nat):Int),stack:=Wn++vs,aQ:=q' }))\/∃t:Int,(1<=t/\t<=9)/\bh p C inp (M.aX { c with at_:=(k:Int),stack:=Wn,aQ:=q }) (M.jf c 3 t)
 |[],Wn,k,q,hL,hl,hz,hd=>.inl ⟨[],q,rfl,fun v hv=>by(cases hv),by rw[List.append_nil];exact bh.refl _⟩
 |x::L,Wn,k,q,hL,hl,hz,hd=>by
  obtain⟨x0,x1,x2,x3,x4⟩:=hL x jE;have hm:=hs.ok.aa.many;have e0:bv (bg p n) (k:Int) (x::L) []=bg p n x k++bv (bg p n) ((k+(bg p n x k).length:Nat):Int) L []:=by show bv (bg p n) k L ([]++bg p n x ((k:Int)+((0:Nat):Int)))=_;rw[wF,List.nil_append,show((k:Int)+((0:Nat):Int))=(k:Int) from jB,Int.natCast_add]
  rw[e0]at hl ⊢;rcases zk (inp:=inp) hs hM.one hM.eO hM.st hM.cells hM.rg hj VX X4 n x k { c with at_:=(k:Int),stack:=Wn,aQ:=q } x0 x1 x2 x3 x4 rfl rfl hl.app.1 hz (by show Wn.length+x.toNat<=900;simp at hd;omega)with⟨v,q1,hv,g1⟩|⟨t,ht,g1⟩
  ·rcases JJ hs hM hj c VX X4 L (Wn++[v]) (k+(bg p n x k).length) q1 (fun y hy=>hL y (by simp[hy])) hl.app.2 (vJ hz hv) (by simp at hd ⊢;omega)with⟨vs,q',e,V',g2⟩|⟨t,ht,g2⟩
   ·refine .inl ⟨v::vs,q',by simp[e],fun u hu=>?_,?_⟩
    ·rcases List.mem_cons.1 hu with rfl|hu
     ·exact hv
     ·exact V' u hu
    ·rw[Int.natCast_add]at g2;rw[List.length_append,<-Nat.add_assoc];rw[List.append_assoc]at g2;exact g1.trans g2
   ·rw[Int.natCast_add]at g2;exact .inr ⟨t,ht,g1.trans g2⟩
  ·exact .inr ⟨t,ht,g1⟩
def EK{M:MV}(hs:gF p)(hE:xV p C)(hCl:C.entry.length=p.aa.ak.length)(hM:ff p C M){c:MC}(hc:mI p c)(hm:uy p C c.fn.toNat c.mark)(O':c.stack=[]){n kc:Nat}{x:Int}(VL:c.at_=(kc:Int))(h0:0<=x)(hl:x.toNat<p.aa.nodes.length)(hk:(ap p x).kind=21)(Wb:jL p c.fn.toNat x)(hn:x.toNat<n)
  (Z1:bJ C.ins kc (cz p n x kc)) (Wc:kc+(cz p n x kc).length<C.ins.length) (WA:yr c (nth C.ins (kc+(cz p n x kc).length))) (Yd:dU p C c.fn.toNat (kc+(cz p n x kc).length+1)):∃m1,bh p C inp (M.aX c) m1/\mg p C M m1:=by
 have h1:=hM.one;have h8:=hM.eO;have f0:=hc.f0;have f1:=hc.f1;obtain⟨cal,V7⟩:=callee hs hl hk;have Zy:AJ p x=(cal:Int):=V7.last;have Y2:=hs.ok.aa.shape x.toNat hl;have hbg:=V7.CF;have XN:=Z1.app.2.head;have U9:(cz p n x kc).length=(bv (bg p n) kc (ap p x).l []).length+1:=by unfold cz;rw[List.length_append];rfl
 rw[Zy]at XN;have Wi:=JJ (inp:=inp) hs hM (j:=c.fn.toNat) jB (n:=n) c hc.sl hc.rg (ap p x).l [] kc c.aQ (fun y hy=>by obtain⟨y1,y2,y3,y4⟩:=Wb.aC hs jB hy;exact⟨y2,y4,y1,Y2.1.call hk y hy,jB⟩) Z1.app.1 (fun v hv=>by cases hv) jF
 have ec:({ c with at_:=(kc:Int),stack:=[],aQ:=c.aQ }:MC)=c:=by rw[<-VL,<-O']
 rw[ec]at Wi;generalize hke2:kc+(bv (bg p n) kc (ap p x).l []).length=ke at*;rcases Wi with⟨A,q,ZD,hA,g⟩|⟨t,ht,g⟩
 rotate_left
 ·exact⟨_,g,wA hM hc hm (.inr rfl) jB⟩
 rw[List.nil_append]at g;have haR:=hs.ak cal V7.lt;have Vb:=hs.ok.size;have p1:=haR.xR;have p2:=haR.hi;have p3:=V7.args;have p5:=V7.lt;have hok:(M.aX { c with at_:=((ke:Nat):Int),stack:=A,aQ:=q }).fN p C:=qe h1 h8 rfl XN.1 XN.2.1 hA (by show A.length<=1000;omega) ⟨by show(1:Int)<=20;decide,by show(20:Int)<=23;decide⟩ 0 (Nat.zero_le _) (fun _=>.inr (.inr (.inr (.inr (.inr (.inr (.inl rfl))))))) (fun h=>by cases h) (fun h=>by rcases h with h|h|h|h<;>cases h) (fun _=>by
  refine⟨?_,?_,?_,?_,?_,?_,?_,?_,?_⟩
  ·show(0:Int)<=((ap p x).l.length:Int);omega
  ·show((ap p x).l.length:Int)<=(A.length:Int);omega
  ·show((ap p x).l.length:Int)<=3;omega
  ·show(0:Int)<=(cal:Int);omega
  ·show(cal:Int)<(C.entry.length:Int);omega
  ·show(cal:Int)<(p.size.length:Int);omega
  ·show 0<=nth p.size ((cal:Int)).toNat;rw[Int.toNat_natCast];omega
  ·show nth p.size ((cal:Int)).toNat<=24;rw[Int.toNat_natCast];omega
  ·show((ap p x).l.length:Int)<=nth p.size ((cal:Int)).toNat;rw[Int.toNat_natCast];omega)
 have Wf:∀m',bh p C inp ((M.aX { c with at_:=(ke:Int)+1,stack:=A,aQ:=q }).ins p C inp ⟨20,(cal:Int),((ap p x).l.length:Int),sE⟩) m'->bh p C inp (M.aX c) m':=fun m' hg=> g.trans (bh.ins (c:={ c with at_:=(ke:Int),stack:=A,aQ:=q }) h1 h8 hM.st rfl XN.1 XN.2.1 (fun h=>by cases h) hok hg)
 have Wk:(M.aX { c with at_:=(ke:Int)+1,stack:=A,aQ:=q }).cut ((ap p x).l.length:Int).toNat=M.aX { c with at_:=(ke:Int)+1,stack:=[],aQ:=q+(ap p x).l.length }:=by rw[MV.cY h1,Int.toNat_natCast];unfold MC.cut;show M.aX ⟨_,_,_,_,A.take (A.length-(ap p x).l.length),_⟩=_;rw[ZD,Nat.sub_self];rfl
 rw[MV.qt,Wk,MV.bP]at Wf;by_cases h88:8<=M.calls.length
 ·rw[if_pos h88,MV.dZ h1]at Wf;exact⟨_,Wf _ (bh.refl _),wA hM hc hm (.inr rfl) ⟨jC,jC⟩⟩
 rw[if_neg h88,MV.bn h1]at Wf;have hdr:A.drop (A.length-((ap p x).l.length:Int).toNat)=A:=by rw[Int.toNat_natCast,ZD,Nat.sub_self,List.drop_zero]
 have hbp:(MC.stack { c with at_:=(ke:Int)+1,stack:=A,aQ:=q }).drop ((MC.stack { c with at_:=(ke:Int)+1,stack:=A,aQ:=q }).length-((ap p x).l.length:Int).toNat)=A:=hdr;rw[hbp]at Wf;obtain⟨ek,e1,e2⟩:=hE cal V7.lt;generalize VV:({ c with at_:=(ke:Int)+1,stack:=[],aQ:=q+(ap p x).l.length }:MC)=c' at*;have hae:mI p c'/\rm p C c':=by subst VV;refine⟨⟨hc.f0,hc.f1,hc.sl,hc.rg⟩,rfl,hm,ke+1,by push_cast;rfl,?_⟩;have e:kc+(cz p n x kc).length=ke+1:=jB;rw[e]at Wc WA Yd;exact⟨Wc,WA,Yd⟩
 generalize hd:MV.jO p C (cal:Int) A=d;have hnt:nth p.size ((cal:Int)).toNat=nth p.size cal:=by rw[Int.toNat_natCast]
 have hdF:mI p d:=by
  subst hd;refine⟨by show(0:Int)<=cal;omega,by show(cal:Int)<_;omega,?_,?_⟩
  ·show((A++List.replicate _ v0).length:Int)=nth p.size ((cal:Int)).toNat;rw[List.length_append,List.length_replicate,hnt];omega
  ·intro v hv;rcases List.mem_append.1 (show v∈A++List.replicate _ v0 from hv)with hv|hv
   ·exact(hA v hv).1
   ·rw[(List.mem_replicate.1 hv).2];exact th
 have Vf:((M.aX c').cB p C (cal:Int) A).calls.length=M.calls.length+1:=by show((M.aX c').calls++[_]).length=_;rw[List.length_append,MV.bP];rfl
 have hnk:∀k,k<M.calls.length->nth ((M.aX c').cB p C (cal:Int) A).calls k=nth (M.aX c').calls k:=fun k hk=>by show nth ((M.aX c').calls++[_]) k=_;unfold nth;rw[List.getD_eq_getElem?_getD,List.getElem?_append_left (by rw[MV.bP];exact hk),List.getD_eq_getElem?_getD]
 have hbq:((M.aX c').cB p C (cal:Int) A).ai=d:=by
  unfold MV.ai;rw[Vf];show nth ((M.aX c').calls++[MV.jO p C (cal:Int) A]) (M.calls.length+1-1)=d;have:M.calls.length+1-1=(M.aX c').calls.length:=by rw[MV.bP];omega
  rw[this,qM,hd]
 have hB:ff p C ((M.aX c').cB p C (cal:Int) A):=by
  refine⟨jB,jB,hM.st,hM.tr,fun k hk=>?_,hM.cells,hM.rg⟩;rw[hnk k jB];by_cases e:k=M.calls.length-1
  ·have:nth (M.aX c').calls k=c':=by rw[e];exact(Go.Gd.dD _ _ _ _ jB).trans (if_pos rfl)
   rw[this];exact hae
  ·have:nth (M.aX c').calls k=nth M.calls k:=(Go.Gd.dD _ _ _ _ jB).trans (jN);rw[this];exact hM.low k jB
 obtain⟨m1,g1,d1⟩:=ww (inp:=inp) _ _ d ek hB rfl hdF (by subst hd;rfl) (by subst hd;show nth C.entry ((cal:Int)).toNat=_;rw[Int.toNat_natCast];exact e1) (by subst hd;show dU p C ((cal:Int)).toNat ek;rw[Int.toNat_natCast];exact e2);refine⟨m1,Wf _ ?_,d1⟩;have:=MV.rM ((M.aX c').cB p C (cal:Int) A) jB;rw[hbq]at this;rw[<-this];exact g1
theorem BB{j n:Nat}:∀(L:UU) (k:Nat),(∀x∈L,0<=x/\x.toNat<n/\x.toNat<p.aa.nodes.length/\jL p j x/\fu (bT p.aa.nodes x))->bJ C.ins k (bv (gj p n) k L [])->dU p C j (k+(bv (gj p n) k L []).length)->dU p C j k
 |[],k,hL,hl,hc=>hc
 |x::L,k,hL,hl,hc=>by
  obtain⟨x0,x1,x2,x3,x4⟩:=hL x jE;obtain⟨m,rfl⟩:∃m,n=m+1:=⟨n-1,jB⟩;have e0:bv (gj p (m+1)) (k:Int) (x::L) []=gj p (m+1) x k++bv (gj p (m+1)) ((k+(gj p (m+1) x k).length:Nat):Int) L []:=by show bv (gj p (m+1)) k L ([]++gj p (m+1) x ((k:Int)+((0:Nat):Int)))=_;rw[wF,List.nil_append,show((k:Int)+((0:Nat):Int))=(k:Int) from jB,Int.natCast_add]
  rw[e0]at hl hc;rw[List.length_append,<-Nat.add_assoc]at hc;exact .mark x0 x1 x2 x3 x4 hl.app.1 (BB L _ (fun y hy=>hL y (by simp[hy])) hl.app.2 hc)
end
section
variable {p:ah}{C:aE}{inp:UU}
def Uh{l:UU}(h:∀x∈l,bG x)(k:Nat):bG (nth l k):=by
 rcases Bm l k with e|e
 ·exact h _ e
 ·rw[e];exact th
def T9{h:UT}(hr:pU h)(i k:Nat){v:Int}(hv:bG v):pU (h.set i ((nth h i).set k v)):=fun l hl x hx=>by
 rcases List.mem_or_eq_of_mem_set hl with hl|rfl
 ·exact hr l hl x hx
 ·rcases List.mem_or_eq_of_mem_set hx with hx|rfl
  ·rcases Bm h i with e|e
   ·exact hr _ e x hx
   ·rw[e]at hx;cases hx
  ·exact hv
def NJ{M:MV}(hs:gF p)(hE:xV p C)(hCl:C.entry.length=p.aa.ak.length)(hi:∀x∈inp,bG x)(hM:ff p C M){c:MC}(hc:mI p c){k n:Nat}{a:Int}(hm:mR p C c.fn.toNat k n a)(Yg:c.mark=(k:Int))(O':c.stack=[])(VL:c.at_=(k:Int)+1):∃m1,bh p C inp (M.aX c) m1/\mg p C M m1:=by
 have h1:=hM.one;have h8:=hM.eO;have f0:=hc.f0;have f1:=hc.f1;have hj:c.fn.toNat<p.aa.ak.length:=jB;have hmA:uy p C c.fn.toNat c.mark:=⟨k,n,a,Yg,hm⟩;have hl:=hm.hl;have sh:=(hs.ok.aa.shape a.toNat hl).1;have Vh:=hs.ok.aa.many;have Vn:fu (ap p a).kind:=hm.hk;unfold fu at Vn;have XE:ju (ap p a).kind->0<=nth p.slots a.toNat/\nth p.slots a.toNat<c.slots.length:=fun h=>by have:=(hs.ak _ hj).all a.toNat hm.hi.1 (by have:=hm.hi.2;omega) h;rw[hc.sl];exact this
 have hC:=hm.hC;have Vg:=hm.h;have e0:=zw p n a k;have ek:(k:Int)+1=((k+1:Nat):Int):=by push_cast;rfl
 rw[ek]at e0 VL;have aC:∀x∈(ap p a).l,0<=x/\x.toNat<n/\x.toNat<p.aa.nodes.length/\jL p c.fn.toNat x:=fun x hx=>by obtain⟨b1,b2,b3,b4⟩:=hm.hi.aC hs hj hx;have:=hm.hn;exact⟨b2,jB,b4,b1⟩
 have ex:∀(M':MV) (d:MC) (kd:Nat),ff p C M'->mI p d->d.fn=c.fn->d.slots=c.slots->d.at_=(kd:Int)->(∀v∈d.stack,im v)->d.stack.length<=2->∀x∈(ap p a).l,cF (bT p.aa.nodes x)->bJ C.ins kd (bg p n x kd)->l8 p C inp M' d (kd+(bg p n x kd).length):=fun M' d kd ZE hd d1 d2 d3 d4 d5 x hx Vw hCx=>by obtain⟨b1,b2,b3,b4⟩:=aC x hx;exact zk hs ZE.one ZE.eO ZE.st ZE.cells ZE.rg hj (slots:=c.slots) hc.sl hc.rg n x kd d b1 b3 b4 Vw b2 d2 d3 hCx d4 jB
 have fr:∀(kd q:Nat) (st:List aj),mI p { c with at_:=(kd:Int),stack:=st,aQ:=q }:=fun kd q st=>⟨hc.f0,hc.f1,hc.sl,hc.rg⟩
 have stop:∀(kd q:Nat) (st:List aj) (s t:Int),s=1\/s=3->0<=t/\t<=9->mg p C M (M.jf { c with at_:=(kd:Int),stack:=st,aQ:=q } s t):=fun kd q st s t h h'=>wA hM (fr kd q st) hmA h h'
 have cont:∀(M':MV) (kd q:Nat),ff p C M'->dU p C c.fn.toNat kd->∃m1,bh p C inp (M'.aX { c with at_:=(kd:Int),stack:=[],aQ:=q }) m1/\mg p C M' m1:=fun M' kd q ZE h=>ww _ M' _ kd ZE rfl (fr kd q []) rfl rfl h
 have finr:∀(M':MV) (kd q:Nat) (v:aj),ff p C M'->im v->kd<C.ins.length->yr c (nth C.ins kd)->dU p C c.fn.toNat (kd+1)->∃m1,bh p C inp (M'.aX { c with at_:=(kd:Int),stack:=[v],aQ:=q }) m1/\mg p C M' m1:=fun M' kd q v ZE hv h2 h3 h4=> KF ZE rfl (fun M c k a b=>ww _ M c k a b) (c:={ c with at_:=(kd:Int),stack:=[v],aQ:=q }) (fr kd q [v]) rfl hv rfl h2 h3 h4
 -- an instruction on one value
 have go1:∀{kd q:Nat} {i:ax} {v:aj} {m':MV},bJ C.ins kd [i]->im v->i.op=13\/i.op=15\/i.op=17\/i.op=21->bh p C inp ((M.aX { c with at_:=(kd:Int)+1,stack:=[v],aQ:=q }).ins p C inp i) m'->bh p C inp (M.aX { c with at_:=(kd:Int),stack:=[v],aQ:=q }) m':=fun{kd q i v m'} hl hv ho g=> bh.ins (c:={ c with at_:=(kd:Int),stack:=[v],aQ:=q }) h1 h8 hM.st rfl hl.head.1 hl.head.2.1 jB (qe h1 h8 rfl hl.head.1 hl.head.2.1 (fun u hu=>by rw[List.mem_singleton.1 hu];exact hv) jE jB 1 jE (fun h=>by cases h) (fun _=>jB) (fun h=>jB) (fun h=>jB)) g
 have last1:∀(kd:Int) (q:Nat) (v:aj),MC.last { c with at_:=kd,stack:=[v],aQ:=q }=v:=fun _ _ _=>rfl
 have cut1:∀(kd:Int) (q:Nat) (v:aj),MC.cut { c with at_:=kd,stack:=[v],aQ:=q } 1={ c with at_:=kd,stack:=[],aQ:=q+1 }:=fun _ _ _=>rfl
 have nat1:∀kd:Nat,(kd:Int)+1=((kd+1:Nat):Int):=fun kd=>by push_cast;rfl
 have self:c={ c with at_:=((k+1:Nat):Int),stack:=[],aQ:=c.aQ }:=by rw[<-VL,<-O']
 -- an expression at the beginning, and what is behind it
 have first:∀x∈(ap p a).l,cF (bT p.aa.nodes x)->bJ C.ins (k+1) (bg p n x ((k+1:Nat):Int))->(∀v q,im v->∃m1,bh p C inp (M.aX { c with at_:=((k+1+(bg p n x ((k+1:Nat):Int)).length:Nat):Int),stack:=[v],aQ:=q }) m1/\mg p C M m1)->∃m1,bh p C inp (M.aX c) m1/\mg p C M m1:=fun x hx Vw hCx h=>by
  rcases ex M c (k+1) hM hc rfl rfl VL (fun v hv=>by rw[O']at hv;cases hv) (by rw[O'];simp) x hx Vw hCx with⟨v,q,hv,g⟩|⟨t,ht,g⟩
  ·obtain⟨m1,g1,d⟩:=h v q hv;rw[O',List.nil_append]at g;rw[Int.natCast_add (k+1)]at g1;exact⟨m1,g.trans g1,d⟩
  ·exact⟨_,g,wA hM hc hmA (.inr rfl) jB⟩
 -- a block below it
 have blk:∀b∈(ap p a).l,bT p.aa.nodes b=18->∀kb:Nat,bJ C.ins kb (bv (gj p n) kb (ap p b).l [])->dU p C c.fn.toNat (kb+(bv (gj p n) kb (ap p b).l []).length)->dU p C c.fn.toNat kb:=fun b hb X2 kb hl h=>by obtain⟨b1,b2,b3,b4⟩:=aC b hb;refine BB _ kb (fun x hx=>?_) hl h;obtain⟨x1,x2,x3,x4⟩:=b4.aC hs hj hx;exact⟨x2,jB,x4,x1,(hs.ok.aa.shape b.toNat b3).1.block X2 x hx⟩
 -- one way, or the other
 have branch:∀(kx q kt:Nat) (v:aj),bJ C.ins kx [iI 17 (kt:Int)]->im v->dU p C c.fn.toNat kt->dU p C c.fn.toNat (kx+1)->∃m1,bh p C inp (M.aX { c with at_:=(kx:Int),stack:=[v],aQ:=q }) m1/\mg p C M m1:=fun kx q kt v hl hv ht hf=>by
  have go:∀m',_->bh p C inp (M.aX { c with at_:=(kx:Int),stack:=[v],aQ:=q }) m':=fun m'=>go1 (m':=m') hl hv (.inr (.inr (.inl rfl)))
  rw[MV.o0,MV.bn h1,last1,MV.cY h1,cut1,MV.dB]at go;by_cases h:v.n=0
  ·rw[if_pos h]at go;obtain⟨m1,g,d⟩:=cont M kt (q+1) hM ht;exact⟨m1,go _ g,d⟩
  ·rw[if_neg h]at go;obtain⟨m1,g,d⟩:=cont M (kx+1) (q+1) hM hf;exact⟨m1,go _ g,d⟩
 have VH:((ap p a).kind=10\/(ap p a).kind=11)\/(ap p a).kind=12\/(ap p a).kind=13\/(ap p a).kind=14\/(ap p a).kind=15\/(ap p a).kind=16\/(ap p a).kind=17:=jB;rcases VH with e|e|e|e|e|e|e
 ·-- let, set
  obtain⟨x,u',Zi⟩:=sh.right e;have u':(ap p a).l=[x]:=u';have Wd:nth (ap p a).l 0=x:=by rw[u'];rfl
  have Xr:x∈(ap p a).l:=by rw[u'];simp
  rw[if_pos e,Wd]at e0;rw[e0]at hC Vg;have hC:=hC.head.2.2;have VX:=XE (by unfold ju;omega);obtain⟨b1,b2,b3,b4⟩:=aC x Xr;have hF:∀i,i=iI 6 (nth p.slots a.toNat)->yr c i:=fun i h=>.inl ⟨_,h,VX⟩
  have Vc:=hC.last;rw[List.length_cons,List.length_append,List.length_singleton]at Vg;rw[uP]at Vc Vg;by_cases k19:(ap p x).kind=19
  ·rw[if_pos k19]at Vc Vg;have hx:=Vc.1.head;have Vf:=Vc.2;rw[List.length_singleton]at Vf Vg;have go:∀m',bh p C inp ((M.aX { c with at_:=((k+1:Nat):Int)+1 }).ins p C inp (iI 14 0)) m'->bh p C inp (M.aX c) m':=fun m' g=>
    bh.ins h1 h8 hM.st VL hx.1 hx.2.1 (fun h=>by cases h) (qe h1 h8 VL hx.1 hx.2.1 (fun v hv=>by rw[O']at hv;cases hv) (by rw[O'];simp) ⟨by show(1:Int)<=14;decide,by show(14:Int)<=23;decide⟩ 0 (Nat.zero_le _) (fun _=>.inr (.inr (.inr (.inr (.inl rfl))))) (fun h=>by cases h) (fun h=>by rcases h with h|h|h|h<;>cases h) (fun h=>by cases h)) g
   rw[MV.o4]at go;by_cases hw:(inp.length:Int)<=M.in_
   ·have hw':(inp.length:Int)<=(M.aX { c with at_:=((k+1:Nat):Int)+1 }).in_:=hw;rw[if_pos hw',MV.dZ h1]at go;exact⟨_,go _ (bh.refl _),wA hM (c:={ c with at_:=((k+1:Nat):Int)+1 }) ⟨hc.f0,hc.f1,hc.sl,hc.rg⟩ hmA (.inl rfl) ⟨Int.le_refl _,jC⟩⟩
   ·have hw':¬(inp.length:Int)<=(M.aX { c with at_:=((k+1:Nat):Int)+1 }).in_:=hw;rw[if_neg hw',MV.fi h1]at go;obtain⟨m1,g,d⟩:=finr { M with in_:=M.in_+1 } (k+1+1) (c.aQ-1) (vI (nth inp M.in_.toNat)) ⟨hM.one,hM.eO,hM.st,hM.tr,hM.low,hM.cells,hM.rg⟩ (q5 (Uh hi _)) Vf.1 (hF _ Vf.2) Vg;refine⟨m1,go _ ?_,d⟩;have e:MC.push { c with at_:=((k+1:Nat):Int)+1 } (vI (nth inp M.in_.toNat))={ c with at_:=((k+1+1:Nat):Int),stack:=[vI (nth inp M.in_.toNat)],aQ:=c.aQ-1 }:=by
     unfold MC.push;simp only[O'];rfl
    show bh p C inp { M.aX (MC.push { c with at_:=((k+1:Nat):Int)+1 } (vI (nth inp M.in_.toNat)))with in_:=M.in_+1 } m1;rw[e];exact g
  rw[if_neg k19]at Vc Vg;by_cases k20:(ap p x).kind=20
  ·rw[if_pos k20]at Vc Vg;obtain⟨y,hly,Yw⟩:=(hs.ok.aa.shape x.toNat b3).1.one (.inr (.inr (.inr (.inr (.inr k20)))));have hly:(ap p x).l=[y]:=hly;have YV:nth (ap p x).l 0=y:=by rw[hly];rfl
   rw[YV]at Vc Vg;obtain⟨y1,y2,y3,y4⟩:=b4.aC hs hj (b:=y) (by rw[hly];simp);have ZF:=Vc.1.last;rw[List.length_append,List.length_singleton]at Vc Vg;rcases zk (inp:=inp) hs h1 h8 hM.st hM.cells hM.rg hj (slots:=c.slots) hc.sl hc.rg n y (k+1) c y2 y4 y1 Yw jB rfl VL ZF.1 (fun v hv=>by rw[O']at hv;cases hv) (by rw[O'];show 0+y.toNat<=900;omega)with⟨v,q,hv,g⟩|⟨t,ht,g⟩
   rotate_left
   ·exact⟨_,g,wA hM hc hmA (.inr rfl) jB⟩
   rw[O',List.nil_append,<-Int.natCast_add]at g;generalize hX:bg p n y ((k+1:Nat):Int)=X at*;have go:∀m',bh p C inp ((M.aX { c with at_:=((k+1+X.length:Nat):Int)+1,stack:=[v],aQ:=q }).ins p C inp (iI 13 0)) m'->bh p C inp (M.aX c) m':=fun m' g'=>g.trans (go1 ⟨_,by rw[List.drop_eq_getElem_cons ZF.2.1,<-ee ZF.2.1,ZF.2.2];rfl⟩ hv (.inl rfl) g')
   rw[MV.rL,MV.bn h1,last1,MV.cY h1,cut1,MV.dZ h1,MV.dZ h1,MV.fi h1,nat1]at go;by_cases hq:v.n<0\/16<v.n
   ·rw[if_pos hq]at go;exact⟨_,go _ (bh.refl _),stop _ _ _ _ _ (.inr rfl) jC⟩
   rw[if_neg hq]at go;by_cases hq2:40<gz M.heap+v.n+1
   ·have hao:40<gz (M.aX { c with at_:=((k+1+X.length+1:Nat):Int),stack:=[v],aQ:=q }).heap+v.n+1:=hq2;rw[if_pos hao]at go;exact⟨_,go _ (bh.refl _),stop _ _ _ _ _ (.inr rfl) jC⟩
   have hao:¬40<gz (M.aX { c with at_:=((k+1+X.length+1:Nat):Int),stack:=[v],aQ:=q }).heap+v.n+1:=hq2;rw[if_neg hao]at go;have VW:gz (M.heap++[List.replicate v.n.toNat 0])<=40:=by rw[Hy,List.length_replicate];omega
   have hhl:=PS M.heap;obtain⟨m1,g',d⟩:=finr { M with heap:=M.heap++[List.replicate v.n.toNat 0] } (k+1+(X.length+1)) (q+1-1) ⟨4,M.heap.length+1,sE⟩ ⟨hM.one,hM.eO,hM.st,hM.tr,hM.low,VW,fun l hl x hx=>by
    rcases List.mem_append.1 hl with hl|hl
    ·exact hM.rg l hl x hx
    ·rw[List.mem_singleton.1 hl]at hx;rw[(List.mem_replicate.1 hx).2];exact th⟩ ⟨by show bG ((M.heap.length:Int)+1);have:=hM.cells;unfold bG;omega,by show sE.size<=40;decide⟩ Vc.2.1 (hF _ Vc.2.2) (by rw[show k+1+(X.length+1)+1=k+(X.length+1+1+1) from jB];exact Vg)
   exact⟨m1,go _ g',d⟩
  rw[if_neg k20]at Vc Vg;by_cases k21:(ap p x).kind=21
  ·rw[if_pos k21]at Vc Vg;exact EK hs hE hCl hM hc hmA O' VL b1 b3 k21 b4 b2 Vc.1 Vc.2.1 (hF _ Vc.2.2) (by rw[show k+1+(cz p n x ((k+1:Nat):Int)).length+1=k+((cz p n x ((k+1:Nat):Int)).length+1+1) from jB];exact Vg)
  rw[if_neg k21]at Vc Vg;have Vw:cF (bT p.aa.nodes x):=by
   rcases Zi with h|h|h|h
   ·exact h
   ·exact(k19 h).elim
   ·exact(k20 h).elim
   ·exact(k21 h).elim
  exact first x Xr Vw Vc.1 fun v q hv=>finr M _ q v hM hv Vc.2.1 (hF _ Vc.2.2) (by rw[show k+1+(bg p n x ((k+1:Nat):Int)).length+1=k+((bg p n x ((k+1:Nat):Int)).length+1+1) from jB];exact Vg)
 ·-- put
  obtain⟨x,y,u',Vw,Yw⟩:=sh.two (.inr e);have u':(ap p a).l=[x,y]:=u';have Wd:nth (ap p a).l 0=x:=by rw[u'];rfl
  have YV:nth (ap p a).l 1=y:=by rw[u'];rfl
  rw[jN,if_pos e,Wd,YV]at e0;rw[e0]at hC Vg;have hC:=hC.head.2.2;have VX:=XE (by unfold ju;omega);have hxC:=hC.last.1.app.1;have hyC:=hC.last.1.app.2;have Vc:=hC.last.2;simp only[List.length_cons,List.length_append,List.length_nil]at Vc Vg;refine first x (by rw[u'];simp) Vw hxC fun v q hv=>?_
  generalize hX:bg p n x ((k+1:Nat):Int)=X at*;rw[<-Int.natCast_add]at hyC Vc Vg;rcases ex M { c with at_:=((k+1+X.length:Nat):Int),stack:=[v],aQ:=q } (k+1+X.length) hM (fr _ _ _) rfl rfl rfl (fun u hu=>by rw[List.mem_singleton.1 hu];exact hv) jE y (by rw[u'];simp) Yw hyC with⟨w,q2,hw,g⟩|⟨t,ht,g⟩
  rotate_left
  ·exact⟨_,g,stop _ _ _ _ _ (.inr rfl) jB⟩
  rw[<-Int.natCast_add]at g;generalize hY:bg p n y ((k+1+X.length:Nat):Int)=Y at*;rw[<-Nat.add_assoc]at Vc;have go:∀m',bh p C inp ((M.aX { c with at_:=((k+1+X.length+Y.length:Nat):Int)+1,stack:=[v]++[w],aQ:=q2 }).ins p C inp (iI 12 (nth p.slots a.toNat))) m'->bh p C inp (M.aX { c with at_:=((k+1+X.length:Nat):Int),stack:=[v],aQ:=q }) m':=fun m' g'=>g.trans
   (bh.ins (c:={ c with at_:=((k+1+X.length+Y.length:Nat):Int),stack:=[v]++[w],aQ:=q2 }) h1 h8 hM.st rfl Vc.1 Vc.2 (fun h=>by cases h) (qe h1 h8 rfl Vc.1 Vc.2 (vJ (fun u hu=>by rw[List.mem_singleton.1 hu];exact hv) hw) jE ⟨by show(1:Int)<=12;decide,by show(12:Int)<=23;decide⟩ 2 jE (fun h=>by cases h) (fun h=>by cases h) (fun _=>VX) (fun h=>by cases h)) g')
  have c2:MC.cut { c with at_:=((k+1+X.length+Y.length:Nat):Int)+1,stack:=[v]++[w],aQ:=q2 } 2={ c with at_:=((k+1+X.length+Y.length+1:Nat):Int),stack:=[],aQ:=q2+2 }:=rfl;have l1:MC.last (MC.cut { c with at_:=((k+1+X.length+Y.length:Nat):Int)+1,stack:=[v]++[w],aQ:=q2 } 1)=v:=rfl;have l2:MC.last { c with at_:=((k+1+X.length+Y.length:Nat):Int)+1,stack:=[v]++[w],aQ:=q2 }=w:=rfl;rw[MV.rN,MV.bn h1,l1,l2,MV.cY h1,c2,MV.dZ h1,MV.kJ]at go;have Xv:=Df hM.cells hM.rg (dq c.slots (nth p.slots a.toNat) 4).n;by_cases hb:v.n<0\/((MV.bc M.heap (dq c.slots (nth p.slots a.toNat) 4).n).length:Int)<=v.n
  ·have VM:v.n<0\/((MV.bc M.heap (dq (MC.slots { c with at_:=((k+1+X.length+Y.length:Nat):Int)+1,stack:=[v]++[w],aQ:=q2 }) (nth p.slots a.toNat) 4).n).length:Int)<=v.n:=hb;rw[if_pos VM]at go;exact⟨_,go _ (bh.refl _),stop _ _ _ _ _ (.inr rfl) jC⟩
  ·have VM:¬(v.n<0\/((MV.bc M.heap (dq (MC.slots { c with at_:=((k+1+X.length+Y.length:Nat):Int)+1,stack:=[v]++[w],aQ:=q2 }) (nth p.slots a.toNat) 4).n).length:Int)<=v.n):=hb;rw[if_neg VM]at go;generalize hg:(dq c.slots (nth p.slots a.toNat) 4).n=g4 at*;have VW:gz (M.heap.set (g4-1).toNat ((nth M.heap (g4-1).toNat).set v.n.toNat w.n))<=40:=by
    by_cases I':(g4-1).toNat<M.heap.length
    ·rw[Iw _ _ _ I' (by rw[List.length_set])];exact hM.cells
    ·rw[List.set_eq_of_length_le jB];exact hM.cells
   obtain⟨m1,g',d⟩:=cont { M with heap:=M.heap.set (g4-1).toNat ((nth M.heap (g4-1).toNat).set v.n.toNat w.n) } (k+1+X.length+Y.length+1) (q2+2) ⟨hM.one,hM.eO,hM.st,hM.tr,hM.low,VW,T9 hM.rg _ _ hw.1⟩ (by rw[show k+1+X.length+Y.length+1=k+(X.length+Y.length+(0+1)+1) from jB];exact Vg);exact⟨m1,go _ g',d⟩
 ·-- do
  obtain⟨x,u',hbr⟩:=sh.tS e;have u':(ap p a).l=[x]:=u';have Wd:nth (ap p a).l 0=x:=by rw[u'];rfl
  rw[jN,jN,if_pos e,Wd]at e0;rw[e0]at hC Vg;have hC:=hC.head.2.2.last;obtain⟨b1,b2,b3,b4⟩:=aC x (by rw[u'];simp);rw[List.length_cons,List.length_append,List.length_singleton]at Vg;exact EK hs hE hCl hM hc hmA O' VL b1 b3 hbr b4 b2 hC.1 hC.2.1 (.inr hC.2.2) (by rw[show k+1+(cz p n x ((k+1:Nat):Int)).length+1=k+((cz p n x ((k+1:Nat):Int)).length+1+1) from jB];exact Vg)
 ·-- print
  obtain⟨x,u',Vw⟩:=sh.one (.inr (.inr (.inr (.inr (.inl e)))));have u':(ap p a).l=[x]:=u';have Wd:nth (ap p a).l 0=x:=by rw[u'];rfl
  rw[jN,jN,jN,if_pos e,Wd]at e0;rw[e0]at hC Vg;have hC:=hC.head.2.2;rw[List.length_cons,List.length_append,List.length_singleton]at Vg;refine first x (by rw[u'];simp) Vw hC.last.1 fun v q hv=>?_
  have Vf:=hC.app.2;generalize hX:bg p n x ((k+1:Nat):Int)=X at*;have go:∀m',_->bh p C inp (M.aX { c with at_:=((k+1+X.length:Nat):Int),stack:=[v],aQ:=q }) m':=fun m'=>go1 (m':=m') Vf hv (.inr (.inl rfl))
  rw[MV.oL,MV.bn h1,last1,MV.cY h1,cut1,MV.dZ h1,nat1]at go;by_cases ho:24<=M.aS.length
  ·have W6:24<=(M.aX { c with at_:=((k+1+X.length+1:Nat):Int),stack:=[v],aQ:=q }).aS.length:=ho;rw[if_pos W6]at go;exact⟨_,go _ (bh.refl _),stop _ _ _ _ _ (.inr rfl) jC⟩
  ·have W6:¬24<=(M.aX { c with at_:=((k+1+X.length+1:Nat):Int),stack:=[v],aQ:=q }).aS.length:=ho;rw[if_neg W6]at go;obtain⟨m1,g,d⟩:=cont { M with aS:=M.aS++[lm v] } (k+1+X.length+1) (q+1) ⟨hM.one,hM.eO,hM.st,hM.tr,hM.low,hM.cells,hM.rg⟩ (by rw[show k+1+X.length+1=k+(X.length+1+1) from jB];exact Vg);exact⟨m1,go _ g,d⟩
 ·-- if
  obtain⟨x,b,Vw,X2,hll⟩:=sh.lC e;rw[jN,jN,jN,jN,jN]at e0;rcases hll with u'|⟨d,u',Zs⟩
  ·have u':(ap p a).l=[x,b]:=u';have Wd:nth (ap p a).l 0=x:=by rw[u'];rfl
   have hb0:nth (ap p a).l 1=b:=by rw[u'];rfl
   rw[GG e (by rw[u'];show(2:Nat)≠3;decide),Wd,hb0]at e0;rw[e0]at hC Vg;have hC:=hC.head.2.2;refine first x (by rw[u'];simp) Vw hC.app.1.last.1 fun v q hv=>?_
   have Vf:=hC.app.1.app.2;have hB:=hC.app.2;generalize hX:bg p n x ((k+1:Nat):Int)=X at*;simp only[List.length_append,List.length_cons,List.length_nil]at hB Vg;rw[<-Int.natCast_add,nat1]at Vf hB Vg;generalize YB:bv (gj p n) ((k+1+X.length+1:Nat):Int) (ap p b).l []=B at*;rw[<-Int.natCast_add]at Vf;have c1:dU p C c.fn.toNat (k+1+X.length+1+B.length):=by rw[show k+1+X.length+1+B.length=k+(X.length+(0+1)+B.length+1) from jB];exact Vg
   exact branch _ _ _ _ Vf hv c1 (blk b (by rw[u'];simp) X2 _ (by rw[YB];exact hB) (by rw[YB];exact c1))
  ·have u':(ap p a).l=[x,b,d]:=u';have Wd:nth (ap p a).l 0=x:=by rw[u'];rfl
   have hb0:nth (ap p a).l 1=b:=by rw[u'];rfl
   have hd0:nth (ap p a).l 2=d:=by rw[u'];rfl
   rw[Iu e (by rw[u'];rfl),Wd,hb0,hd0]at e0;rw[e0]at hC Vg;have hC:=hC.head.2.2;refine first x (by rw[u'];simp) Vw hC.app.1.app.1.last.1 fun v q hv=>?_
   have Vf:=hC.app.1.app.1.app.2;have hB:=hC.app.1.app.2.last;have hD:=hC.app.2;generalize hX:bg p n x ((k+1:Nat):Int)=X at*;simp only[List.length_append,List.length_cons,List.length_nil]at hB hD Vg;rw[<-Int.natCast_add,nat1]at Vf hB hD Vg;generalize YB:bv (gj p n) ((k+1+X.length+1:Nat):Int) (ap p b).l []=B at*;have e2:(((k+1+X.length+1:Nat):Int)+(B.length:Int)+1)=((k+1+X.length+1+B.length+1:Nat):Int):=by push_cast;omega
   rw[e2]at hB hD Vg;generalize hDl:bv (gj p n) ((k+1+X.length+1+B.length+1:Nat):Int) (ap p d).l []=D at*;have c1:dU p C c.fn.toNat (k+1+X.length+1+B.length+1+D.length):=by rw[show k+1+X.length+1+B.length+1+D.length=k+(X.length+(0+1)+(B.length+(0+1))+D.length+1) from jB];exact Vg
   rw[show((k+1+X.length+1:Nat):Int)+((B.length:Int)+1)=((k+1+X.length+1+B.length+1:Nat):Int) by push_cast;omega]at Vf;rw[<-Int.natCast_add]at hB;have cD:=blk d (by rw[u'];simp) Zs (k+1+X.length+1+B.length+1) (by rw[hDl];rw[show k+1+(X.length+(0+1)+(B.length+(0+1)))=k+1+X.length+1+B.length+1 from jB]at hD;exact hD) (by rw[hDl];exact c1);have cJ:dU p C c.fn.toNat (k+1+X.length+1+B.length):=.jump (k':=k+1+X.length+1+B.length+1+D.length) (by have:=hB.2.1;omega) (by have:=hB.2.2;rw[show k+1+(X.length+(0+1))+B.length=k+1+X.length+1+B.length from jB]at this;exact this) c1;exact branch _ _ _ _ Vf hv cD (blk b (by rw[u'];simp) X2 _ (by rw[YB];exact hB.1) (by rw[YB];exact cJ))
 ·-- while
  obtain⟨x,b,u',Vw,X2⟩:=sh.dP e;rw[jN,jN,jN,jN,jN]at e0;have u':(ap p a).l=[x,b]:=u';have Wd:nth (ap p a).l 0=x:=by rw[u'];rfl
  have hb0:nth (ap p a).l 1=b:=by rw[u'];rfl
  rw[Hr e,Wd,hb0]at e0;have cK:dU p C c.fn.toNat k:=.mark hm.h0 hm.hn hm.hl hm.hi hm.hk hm.hC hm.h;rw[e0]at hC Vg;have hC:=hC.head.2.2;refine first x (by rw[u'];simp) Vw hC.app.1.last.1 fun v q hv=>?_
  have Vf:=hC.app.1.app.2;have hB:=hC.app.2.last;generalize hX:bg p n x ((k+1:Nat):Int)=X at*;simp only[List.length_append,List.length_cons,List.length_nil]at hB Vg;rw[<-Int.natCast_add,nat1]at Vf hB Vg;generalize YB:bv (gj p n) ((k+1+X.length+1:Nat):Int) (ap p b).l []=B at*;rw[show((k+1+X.length+1:Nat):Int)+((B.length:Int)+1)=((k+1+X.length+1+B.length+1:Nat):Int) by push_cast;omega]at Vf;have c1:dU p C c.fn.toNat (k+1+X.length+1+B.length+1):=by rw[show k+1+X.length+1+B.length+1=k+(X.length+(0+1)+(B.length+(0+1))+1) from jB];exact Vg
  have cJ:dU p C c.fn.toNat (k+1+X.length+1+B.length):=.jump (k':=k) (by have:=hB.2.1;omega) (by have:=hB.2.2;rw[show k+1+(X.length+(0+1))+B.length=k+1+X.length+1+B.length from jB]at this;rw[this];congr 1;push_cast;omega) cK;exact branch _ _ _ _ Vf hv c1 (blk b (by rw[u'];simp) X2 _ (by rw[YB];exact hB.1) (by rw[YB];exact cJ))
 ·-- return
  rw[jN,jN,jN,jN,if_pos e]at e0;by_cases Wt:(ap p a).l.length=0
  ·rw[if_pos Wt]at e0;rw[e0]at hC;have hx:=hC.head.2.2.head;rw[self];exact cont M (k+1) c.aQ hM (.fin hx.1 hx.2.1)
  ·rw[if_neg Wt]at e0;rcases sh.ret e with h|⟨x,u',Vw⟩
   ·have h:(ap p a).l=[]:=h;rw[h]at Wt;exact(Wt rfl).elim
   have u':(ap p a).l=[x]:=u';have Wd:nth (ap p a).l 0=x:=by rw[u'];rfl
   rw[Wd]at e0;rw[e0]at hC;have hC:=hC.head.2.2;refine first x (by rw[u'];simp) Vw hC.last.1 fun v q hv=>?_
   have Vf:=hC.app.2;generalize hX:bg p n x ((k+1:Nat):Int)=X at*;have go:∀m',_->bh p C inp (M.aX { c with at_:=((k+1+X.length:Nat):Int),stack:=[v],aQ:=q }) m':=fun m'=>go1 (m':=m') Vf hv (.inr (.inr (.inr rfl)))
   rw[MV.rY,MV.bn h1,last1,MV.cY h1,cut1]at go;obtain⟨N,hN⟩:∃N,M.calls.length=N+1:=⟨M.calls.length-1,jB⟩;obtain⟨m1,g,d⟩:=Ie (inp:=inp) hM hN (fun M c k a b=>ww N M c k a b) hv { c with at_:=((k+1+X.length:Nat):Int)+1,stack:=[],aQ:=q+1 };exact⟨m1,go _ g,d⟩
end
section
variable {p:ah}
def IU(hs:gF p):xV p (dp p):=fun j hj=>by
 obtain⟨k,h1,h2⟩:=(rk hs).at_ j hj;have Wo:=h2.app.2.head;refine⟨k,h1,BB _ k (fun x hx=>?_) h2.app.1 (.fin Wo.1 Wo.2.1)⟩;have hN:=ou hs.ok.aa hj;have hb:=hs.ok.aa.body _ (cV hj);have Vj:=(hs.ak j hj).chain.le;have J':(nth p.aa.ak j).body.toNat<p.aa.nodes.length:=by have:=hN.1;have:=hN.2;omega
 have hi:jL p j (nth p.aa.ak j).body:=⟨Vj,Nat.le_refl _⟩;obtain⟨x1,x2,x3,x4⟩:=hi.aC hs hj (b:=x) hx;exact⟨x2,by unfold ns;omega,x4,x1,(hs.ok.aa.shape _ J').1.block hb x hx⟩
def _root_.Go.Gd.MV.halt(m:MV):Prop:=m.status=2\/m.status=3
theorem MI.gh{C:aE}{m:MV}(h:MI p C m):MI p C m.gh:=⟨h.eO,h.low,h.ai,h.xE,h.st,h.tr,h.cells,h.rg⟩
variable{inp:UU}
def PT{C:aE}(hs:gF p)(hE:xV p C)(hCl:C.entry.length=p.aa.ak.length)(hi:∀x∈inp,bG x){m:MV}(h:MI p C m)(O':¬m.halt):∃m1,bh p C inp m.ir m1/\mg p C m m1:=by obtain⟨h1,hc,Wp,k,n,a,hk,hm⟩:=h.ai (fun e=>O' (.inl e));have hM:ff p C { m with status:=0 }:=⟨h1,h.eO,rfl,h.tr,h.low,h.cells,h.rg⟩;exact NJ hs hE hCl hi hM (c:={ m.ai with mark:=m.ai.at_,at_:=m.ai.at_+1 }) ⟨hc.f0,hc.f1,hc.sl,hc.rg⟩ hm hk Wp (by show m.ai.at_+1=_;rw[hk])
def MK{C:aE}(hs:gF p)(hE:xV p C)(inp:UU):∃m1,bh p C inp (pJ p C) m1/\mg p C (pJ p C) m1:=by
 obtain⟨j,hj,YA,_,hbs⟩:=E6 hs;obtain⟨ek,e1,e2⟩:=hE j hj;have hf:=hs.ak j hj;have p1:=hf.xR;have hM:ff p C (pJ p C):=⟨by show 1<=1;decide,by show 1<=8;decide,rfl,by show(0:Int)<=0/\(0:Int)<=9;decide,fun k hk=>by have hk:k+1<1:=hk;omega,by show gz []<=40;decide,fun l hl=>by cases hl⟩
 have VB:(MV.jO p C (j4 p) []).fn.toNat=j:=by show(j4 p).toNat=j;rw[YA,Int.toNat_natCast]
 have Vb:nth p.size (j4 p).toNat=nth p.size j:=by rw[YA,Int.toNat_natCast]
 obtain⟨m1,g,d⟩:=ww (inp:=inp) 1 (pJ p C) (MV.jO p C (j4 p) []) ek hM rfl ⟨by show 0<=j4 p;omega,by show j4 p<_;omega,by
  show(([]++List.replicate _ v0:List aj).length:Int)=nth p.size (j4 p).toNat;rw[List.nil_append,List.length_replicate,Vb];simp only[List.length_nil];omega,fun v hv=>by
  have hv:v∈([]++List.replicate _ v0:List aj):=hv;rw[List.nil_append]at hv;rw[(List.mem_replicate.1 hv).2];exact th⟩ rfl (by show nth C.entry (j4 p).toNat=_;rw[YA,Int.toNat_natCast];exact e1) (by rw[VB];exact e2)
 exact⟨m1,g,d⟩
structure dT(p:ah)(C:aE)(F:List Int->MV->MV):Prop where
 step:∀inp:List Int,(∀x∈inp,bG x)->∀m,MI p C m->¬m.halt->∃m1,bh p C inp m.ir m1/\mg p C m m1/\F inp m=m1.gh
 still:∀inp m,m.halt->F inp m=m
def ME(hs:gF p):∃F,dT p (dp p) F:=by
 classical
 refine⟨fun inp m=>if h:¬m.halt/\∃m1,bh p (dp p) inp m.ir m1/\mg p (dp p) m m1 then(Classical.choose h.2).gh else m,fun inp hi m hm O'=>?_,fun inp m h=>by rw[dif_neg (fun h'=>h'.1 h)]⟩;have h:¬m.halt/\∃m1,bh p (dp p) inp m.ir m1/\mg p (dp p) m m1:=⟨O',PT hs (IU hs) (rk hs).len hi hm O'⟩;have hc:=Classical.choose_spec h.2;exact⟨_,hc.1,hc.2,by rw[dif_pos h]⟩
def dT.mi{C:aE}{F:UU->MV->MV}(hF:dT p C F)(hi:∀x∈inp,bG x){m:MV}(h:MI p C m):MI p C (F inp m):=by
 by_cases e:m.halt
 ·rw[hF.still inp m e];exact h
 ·obtain⟨m1,_,d,e⟩:=hF.step inp hi m h e;rw[e];exact d.2.1.gh
theorem dT.time{C:aE}{F:UU->MV->MV}(hF:dT p C F){inp:UU}(hi:∀x∈inp,bG x){m:MV}(h:MI p C m):(F inp m).time=m.time\/((F inp m).time=m.time+1/\(F inp m).status≠1/\¬m.halt):=by
 by_cases e:m.halt
 ·exact .inl (by rw[hF.still inp m e])
 ·obtain⟨m1,_,d,e'⟩:=hF.step inp hi m h e;rw[e'];unfold MV.gh;dsimp only;split
  ·exact .inl d.2.2
  ·rename_i VZ;exact .inr ⟨by rw[d.2.2],VZ,e⟩
end
section
variable {p:ah}{C:aE}{inp:UU}
def K6{m b:MV}{k:Nat}(hb:fY p C inp k m b)(ha:m.gy C):m=b:=by
 cases hb with
 |refl=>rfl
 |step h0 h1=>exact(ha.elim (fun h=>h h0) h1).elim
def PL{n:Nat}{m a:MV}(h:fY p C inp n m a):∀{k b},fY p C inp k m b->a.gy C->b.gy C->a=b:=by
 induction h with
 |refl m=> intro k b hb ha _;exact K6 hb ha
 |@step n m m' h0 h1 hok hg ih=>
  intro k b hb ha VM;cases hb with
  |refl=>exact(VM.elim (fun h=>h h0) h1).elim
  |step _ _ _ hg'=>exact ih hg' ha VM
def sX(m:MV)(k:Nat)(v:aj):MV:=m.aX { m.ai with slots:=m.ai.slots.set k v }
def UC{m:MV}(h:MI p C m)(hs:¬m.halt)(k:Nat){v:aj}(hv:bG v.n):MI p C (sX m k v):=by
 obtain⟨h1,hf,O',hm⟩:=h.ai (fun e=>hs (.inl e));have ht:(sX m k v).ai={ m.ai with slots:=m.ai.slots.set k v }:=MV.bn h1 _;have hl:(sX m k v).calls.length=m.calls.length:=MV.bP _ _;refine⟨by rw[hl];exact h.eO,fun j hj=>?_,fun _=>?_,fun e=>(hs (.inl e)).elim,h.st,h.tr,h.cells,h.rg⟩
 ·rw[hl]at hj;rw[show nth (sX m k v).calls j=nth m.calls j from(Go.Gd.dD _ _ _ _ jB).trans (jN)];exact h.low j hj
 ·rw[hl,ht];exact⟨h1,⟨hf.f0,hf.f1,by show((m.ai.slots.set k v).length:Int)=_;rw[List.length_set];exact hf.sl,JE hf.rg _ hv⟩,O',hm⟩
end
end Go.Proofs.YtjpcgmjaipfgdaaGreatDoor
namespace Go.Proofs.YtjpcgmjaipfgdaaGreatDoor
open Go Go.Gd Tryz Go.Gd.MV
section
variable {p:ah}{C:aE}{m:MV}{N:NM}{e:UR}
def QD(hR:bI p C m N e)(hs:¬(m.status=2\/m.status=3))(h1:1<=m.calls.length)(k:Nat)(hk:k<m.ai.slots.length)(hl:m.ai.slots.length<=1000)(v:aj):cM prog 174 [mP N,rI k,.agg (bW v)] e (rB true) (aZ e (hn 1 N.ai.c) (.aD 54 3 ((m.ai.slots.set k v).map bW)))/\bI p C (sX m k v) N (aZ e (hn 1 N.ai.c) (.aD 54 3 ((m.ai.slots.set k v).map bW))):=by
 have ht:=uV hR h1;have hT:=hR.ai h1;have P':=hR.ok.low;have VY:=hR.tE h1 (m.ai.slots.set k v) (List.length_set ..);have J':=hR.len;refine⟨⟨?_,hR.ok,VY.ok,fun i hi=>?_,?_⟩,VY⟩;rotate_left
 ·rw[bO];split
  ·simp
  ·exact hi
 ·simp only[aR,AV.all,fV hR.root,Bool.and_self,Bool.and_true,bW]
 have k2:=VY.ok;have s2:¬m.status=2:=fun h=>hs (.inl h)
 have s3:¬m.status=3:=fun h=>hs (.inr h)
 have VX:=hT.eN;have Yp:(k:Int)<(m.ai.slots.length:Int):=jB;have Vi:¬(k:Int)<0:=jB;have Vs:¬(m.ai.slots.length:Int)<=(k:Int):=jB;generalize hE:aZ e (hn 1 N.ai.c) (.aD 54 3 ((m.ai.slots.set k v).map bW))=E at k2 ⊢;clear VY;refine aK (L:=ids e) func174 ntmps174 ?_ (hL:=rfl);generalize hB:ids e=B;refine eK ?_
 (have W:=jA P' (jA hR.root (jA hT.var (jA VX (jA s2 (jA s3 (jA Yp (jA hk (jA Vi (Vs)))))))));repeat' (first|refine au fun K hK=>?_|refine aq ?_|(with_reducible refine gR 3 ?_);refine dC 3 ([],[34],[]) [] (bf 0 9) mixed ?_|(refine hK _ _ ?_;clear hK K)|(refine ar ?_ ?_<;>intro hc<;>try exact jz)|refine cL 9 ?_|refine nr ht ?_|refine cT ht ?_|(refine io ?_ ?_<;>intro hc<;>try exact jz)|refine av ?_|exact jI|(clear hK K)))
 subst hE;refine eu (tl:=[(9,.var 54 (bW v))]) hB hR.ok k2 (fun i=>?_) (du jC dL) [.tmp 6];rw[List.map_set];rfl
end
end Go.Proofs.YtjpcgmjaipfgdaaGreatDoor
namespace Go.Proofs.YtjpcgmjaipfgdaaGreatDoor
open Go Go.Gd Tryz
theorem C3{p:ah}{node:Int}{n:Nat}{T B:Nat}(hw:∀b s,0<=b->b.toNat<B->bT p.aa.nodes b=18->lA s<=1000000->s.1.length<=T->lA (jt p node n b s).2<=1000000):∀(l:UU) (s:VS),(∀b∈l,0<=b/\b.toNat<B/\bT p.aa.nodes b=18)->lA s<=1000000->s.1.length<=T->lA (kR (jt p node n) l s).2<=1000000/\((kR (jt p node n) l s).1=false->(kR (jt p node n) l s).2.1=s.1)
 |[],s,_,h,_=>⟨h,fun _=>rfl⟩
 |b::l,s,hl,h,h1=>by
  obtain⟨b0,b1,b2⟩:=hl b jE;have hb:=hw b s b0 b1 b2 h h1;rw[HD];by_cases e:(jt p node n b s).1=true
  ·rw[if_pos e];exact⟨hb,fun h=>by cases h⟩
  ·rw[if_neg e];have e1:=HU (Bool.not_eq_true _ ▸ e);have:=C3 hw l (jt p node n b s).2 (fun b hb=>hl b (by simp[hb])) hb (by rw[e1];exact h1);exact⟨this.1,fun h=>(this.2 h).trans e1⟩
theorem A9{p:ah}(h:nC p)(node:Int):∀(n:Nat) (b:Int) (s:VS),0<=b->b.toNat<p.aa.nodes.length->bT p.aa.nodes b=18->lA s<=1000000->s.1.length+300*b.toNat<=900000->lA (jt p node n b s).2<=1000000
 |0,b,s,_,_,_,ht,_=>ht
 |n+1,b,s,h0,hl,hk,ht,h1=>by
  have sh:=h.aa.shape b.toNat hl;have hll:=zp h b;have sc:∀(l:UU) (t:VS),(∀x∈l,x∈(ap p b).l)->lA t<=1000000->t.1.length+l.length<=s.1.length+300->lA (nt (jt p node n) p node l t).2<=1000000:=fun l=>by
   induction l with
   |nil=>intro t _ g _;exact g
   |cons x l ih=>
    intro t hx g g1;have hxb:=sh.2.1 x (hx x jE);have Yj:x.toNat<p.aa.nodes.length:=jB;have shx:=h.aa.shape x.toNat Yj;simp only[List.length_cons]at g1;have Vr:∀y∈l,y∈(ap p b).l:=fun y hy=>hx y (by simp[hy])
    unfold nt;split
    ·exact g
    split
    ·exact ih _ Vr (HX _ _ g jB) (by show(t.1++[_]).length+_<=_;simp;omega)
    split
    ·rename_i kb;have VD:∀y∈(ap p x).l.drop 1,0<=y/\y.toNat<x.toNat/\bT p.aa.nodes y=18:=fun y hy=>by
      have YG:y∈(nth p.aa.nodes x.toNat).l:=List.mem_of_mem_drop hy;have ZG:=shx.2.1 y YG;refine⟨ZG.1,ZG.2,?_⟩;have hy:y∈(nth p.aa.nodes x.toNat).l.drop 1:=hy;rcases kb with kb|kb
      ·obtain⟨a,c,_,hb,hl|⟨d,hl,hd⟩⟩:=shx.1.lC kb
       ·rw[hl]at hy;simp at hy;subst hy;exact hb
       ·rw[hl]at hy;simp at hy;rcases hy with rfl|rfl
        ·exact hb
        ·exact hd
      ·obtain⟨a,c,hl,_,hb⟩:=shx.1.dP kb;rw[hl]at hy;simp at hy;subst hy;exact hb
     have ZU:=C3 (p:=p) (node:=node) (n:=n) (T:=s.1.length+300) (B:=x.toNat) (fun c u c0 c1 c2 c3 c4=>A9 h node n c u c0 jB c2 c3 jB) ((ap p x).l.drop 1) t VD g jB;split
     ·exact ZU.1
     ·rename_i e;have e1:=ZU.2 (Bool.not_eq_true _ ▸ e);exact ih _ Vr ZU.1 (by rw[e1];omega)
    ·exact ih _ Vr g jB
  have:=sc (ap p b).l s (fun x hx=>hx) ht jB;unfold jt;split
  ·exact this
  ·rw[Rg];exact this
abbrev s8:US:=[.pt 3 0 0 0,.pt 1 0 0 0,.pt 2 0 0 0,.pt 7 0 0 0]
def fE(p:ah)(node:Int)(s:VS):UR:=[(1,.var 32 (dj p)),(2,.var 3 [rI node]),(3,.var 184 [.rs 4 (s.1.length+s.2.length) 3 s.1.length]),(4,.aD 258 3 ((s.1++s.2).map lg)),(7,.var 178 [.eT 221 s8])]
attribute [go_sem] fE
def Tx{p:ah}(node:Int)(w:Int->VS->Bool×VS)(L:UU)(s0:VS)(I:VS->Prop)(hL:L.length<=300)(hI0:I s0)
  (hw:∀b∈L,∀s,I s->ab prog 221 (rI b::s8) (fE p node s) (fun r l'=>r=rB (w b s).1/\l'=fE p node (w b s).2)) (hI:∀b∈L,∀s,I s->(w b s).1=false->I (w b s).2) :
  ab prog 246 [aO eI 1 L,.eT 221 s8] (fE p node s0) (fun r l'=>r=rI (qJ w L s0 0)/\l'=fE p node (kR w L s0).2):=by
 suffices key:∀(sR:VS) (iR:Int),sR=(kR w L s0).2->iR=qJ w L s0 0->ab prog 246 [aO eI 1 L,.eT 221 s8] (fE p node s0) (fun r l'=>r=rI iR/\l'=fE p node sR) from key _ _ rfl rfl
 intro sR iR Zb hiR;refine aK func246 ntmps246 ?_;refine S ?_
 (repeat' (first|refine au fun K hK=>?_|refine aq ?_|(refine hK _ _ ?_;clear hK K)|(refine ar ?_ ?_<;>intro hc<;>try exact jz)|refine av ?_|exact jI|(clear hK K)))
 have U6:=hK;clear hK;refine dw (S:=Nat×VS) [(4,2),(8,11)] (fun t=>t.1<=L.length/\I t.2/\qJ w (L.drop t.1) t.2 t.1=iR/\(kR w (L.drop t.1) t.2).2=sR) (fun t=>[(8,rI t.1)]) (fun t=>⟨[1,2,3,4,7],fE p node t.2⟩) (fun t=>L.length-t.1) (0,s0) ⟨Nat.zero_le _,hI0,hiR.symm,Zb.symm⟩ (dx jD bS) ?_;rintro⟨k,s⟩ ⟨hk,hIs,h1,h2⟩ Kr U8;simp only at hk hIs h1 h2 ⊢;by_cases I':k<L.length
 ·have YF:=hw _ (cV I') s hIs;have hIk:=hI _ (cV I') s hIs;rw[kX I',Si]at h1;rw[kX I',HD]at h2;generalize Zk:nth L k=x at*;generalize w x s=r at*;cases hr:r.1 with
  |true=>
   rw[if_pos hr]at h1 h2;simp only at h1 h2;subst h1 h2;rw[hr]at YF;refine S ?_
   (have W:=Zk;repeat' (first|refine au fun K hK=>?_|refine aq ?_|(refine hK _ _ ?_;clear hK K)|(refine ar ?_ ?_<;>intro hc<;>try exact jz)|(refine cl YF ?_)|refine av ?_|exact jI|(clear hK K)))
   (refine bL [.tmp 4] ?_ ?_<;>(try simp only[go_sem]))
  |false=>
   rw[if_neg (by rw[hr];decide)]at h1 h2;rw[hr]at YF;refine S ?_
   (have W:=Zk;repeat' (first|refine au fun K hK=>?_|refine aq ?_|(refine hK _ _ ?_;clear hK K)|(refine ar ?_ ?_<;>intro hc<;>try exact jz)|(refine cl YF ?_)|refine av ?_|exact jI|(clear hK K)))
   refine U8 _ _ (dO (k+1,r.2) ⟨by show k+1<=L.length;omega,hIk hr,h1,h2⟩ (by show L.length-(k+1)<L.length-k;omega) jD bS)
 ·have WO:k=L.length:=jB;subst WO;rw[List.drop_length]at h1 h2;have h1:iR=-1:=h1.symm;have h2:sR=s:=h2.symm;subst h1 h2;refine S ?_
  (repeat' (first|refine au fun K hK=>?_|refine aq ?_|(refine hK _ _ ?_;clear hK K)|(refine ar ?_ ?_<;>intro hc<;>try exact jz)|refine U6 _ _ ?_|refine av ?_|exact jI|(clear hK K)))
  (refine bL [.tmp 4] ?_ ?_<;>(try simp only[go_sem]))
def UF{p:ah}(node:Int)(w:Int->VS->Bool×VS)(L:UU)(s0:VS)(I:VS->Prop)(hL:L.length<=300)(hI0:I s0)
  (hw:∀b∈L,∀s,I s->ab prog 221 (rI b::s8) (fE p node s) (fun r l'=>r=rB (w b s).1/\l'=fE p node (w b s).2)) (hI:∀b∈L,∀s,I s->(w b s).1=false->I (w b s).2) :
  ab prog 222 [aO eI 1 L,.eT 221 s8] (fE p node s0) (fun r l'=>r=rB (kR w L s0).1/\l'=fE p node (kR w L s0).2):=by
 have hi:=Tx node w L s0 I hL hI0 hw hI;rw[HG w L s0 0 jB];generalize qJ w L s0 0=i at*;generalize (kR w L s0).2=sR at*;refine aK func222 ntmps222 ?_;refine S ?_
 (repeat' (first|refine au fun K hK=>?_|refine aq ?_|(refine hK _ _ ?_;clear hK K)|(refine ar ?_ ?_<;>intro hc<;>try exact jz)|refine cm (hi) ?_|refine av ?_|exact jI|(clear hK K)))
 (refine bL [.tmp 4] ?_ ?_<;>(try simp only[go_sem]))
theorem GN{p:ah}(h:nC p)(node:Int):∀(n:Nat) (b:Int) (s:VS),0<=b->b.toNat<p.aa.nodes.length->b.toNat<n->bT p.aa.nodes b=18->lA s<=1000000->s.1.length+300*b.toNat<=900000->
  ab prog 221 (rI b::s8) (fE p node s) (fun r l'=>r=rB (jt p node n b s).1/\l'=fE p node (jt p node n b s).2)
 |0,b,s,h0,hl,hn,hk,ht,h1=>by omega
 |n+1,b,s,h0,hl,hn,hk,ht,h1=>by
  have ih:=GN h node n;have sh:=h.aa.shape b.toNat hl;have Zv:=sh.1.block hk;have Ws:=sh.2.1;have XB:=h.types;have VX:=h.slots;have hll:=zp h b;have haS:=h.aa.many;have key:∀(rr:Bool×VS) (sR:VS) (bR:Bool),nt (jt p node n) p node (ap p b).l s=rr->bR=rr.1->sR=(if rr.1=true then rr.2 else oP s.1.length rr.2)->ab prog 221 (rI b::s8) (fE p node s) (fun r l'=>r=rB bR/\l'=fE p node sR):=by
   intro rr sR bR hrr ZH Zb;have hL0:(ap p b).l=(nth p.aa.nodes b.toNat).l:=rfl;rw[hL0]at hrr hll;generalize hL:(nth p.aa.nodes b.toNat).l=L at*;unfold lA at ht;refine aK func221 ntmps221 ?_;refine S ?_
   (have W:=hL;repeat' (first|refine au fun K hK=>?_|refine aq ?_|(refine hK _ _ ?_;clear hK K)|(refine ar ?_ ?_<;>intro hc<;>try exact jz)|refine av ?_|exact jI|(clear hK K)))
   have U6:=hK;clear hK;refine dw (S:=Nat×VS) [(6,1),(9,2),(21,54)] (fun t=>t.1<=L.length/\lA t.2<=1000000/\t.2.1.length<=s.1.length+t.1/\s.1.length<=t.2.1.length/\nt (jt p node n) p node (L.drop t.1) t.2=rr) (fun t=>[(21,rI t.1),(6,rB false)]) (fun t=>⟨[1,2,3,4,7],fE p node t.2⟩) (fun t=>L.length-t.1) (0,s) ⟨Nat.zero_le _,ht,Nat.le_refl _,Nat.le_refl _,hrr⟩ (dx jD bS) ?_;rintro⟨k,t⟩ ⟨Vs,htt,htl,htg,WZ⟩ Kr U8;simp only at Vs htt htl htg WZ ⊢;by_cases I':k<L.length
   rotate_left
   ·have WO:k=L.length:=jB;subst WO;rw[List.drop_length]at WZ;have WZ:rr=(false,t):=WZ.symm;subst WZ;have ZH:bR=false:=ZH;have Zb:sR=oP s.1.length t:=Zb;have U9:(oP s.1.length t).1.length=s.1.length:=by unfold oP;simp;omega
    have Wz:(oP s.1.length t).2.length+s.1.length=t.1.length+t.2.length:=by unfold oP;simp;omega
    have Wk:(oP s.1.length t).1++(oP s.1.length t).2=t.1++t.2:=by unfold oP;simp[<-List.append_assoc]
    refine S ?_
    (repeat' (first|refine au fun K hK=>?_|refine aq ?_|(refine hK _ _ ?_;clear hK K)|(refine ar ?_ ?_<;>intro hc<;>try exact jz)|refine U6 _ _ ?_|refine av ?_|exact jI|(clear hK K)))
    subst ZH Zb
    (refine bL [.tmp 6] ?_ ?_<;>(try simp only[go_sem]))
    show[_,_,(3,_),(4,_),_]=[_,_,(3,_),(4,_),_];rw[<-List.map_append,<-List.map_append,Wk,U9,show s.1.length+(oP s.1.length t).2.length=t.1.length+t.2.length from jB]
   have hx:=Zv _ (cV I');have ZB:=Ws _ (cV I');rw[kX I']at WZ;unfold nt at WZ;generalize Zk:nth L k=x at*;have Yj:x.toNat<p.aa.nodes.length:=jB;have shx:=h.aa.shape x.toNat Yj;have Yd:ap p x=nth p.aa.nodes x.toNat:=rfl;rw[Yd]at WZ;by_cases hxn:x=node
   ·rw[if_pos hxn]at WZ;subst WZ;have ZH:bR=true:=ZH;have Zb:sR=t:=Zb;subst ZH Zb;refine S ?_
    (have W:=jA Zk hxn;repeat' (first|refine au fun K hK=>?_|refine aq ?_|(refine hK _ _ ?_;clear hK K)|(refine ar ?_ ?_<;>intro hc<;>try exact jz)|refine al 8 ?_|refine av ?_|exact jI|(clear hK K)))
    (refine bu [.tmp 6] ?_;try simp only[go_sem])
   rw[if_neg hxn]at WZ;by_cases k10:(nth p.aa.nodes x.toNat).kind=10
   ·rw[if_pos k10]at WZ;obtain⟨a,ha,_⟩:=shx.1.right (.inl k10);have ZD:=shx.2.1 a (by rw[ha];simp);have ha0:nth (nth p.aa.nodes x.toNat).l 0=a:=by rw[ha];rfl
    have ha1:(nth p.aa.nodes x.toNat).l.length=1:=by rw[ha];rfl
    unfold lA at htt;refine S ?_
    (have W:=jA Zk (jA hxn (jA k10 (jA ha0 (ha1))));repeat' (first|refine au fun K hK=>?_|refine aq ?_|(with_reducible refine gR 9 ?_);refine dE 9 (bf 0 20) mixed ?_|(refine hK _ _ ?_;clear hK K)|(refine ar ?_ ?_<;>intro hc<;>try exact jz)|refine al 8 ?_|refine sj (enc:=lg) t.1 t.2 [⟨(nth p.aa.nodes x.toNat).name,nth p.types a.toNat,nth p.slots x.toNat⟩] ?_|refine av ?_|exact jI|(clear hK K)))
    have hvo:(⟨(nth p.aa.nodes x.toNat).name,nth p.types a.toNat,nth p.slots x.toNat⟩:ba)=pz p x:=by unfold pz;rw[Yd,ha0]
    rw[hvo];have YJ:=HX (pz p x) t (T:=1000000) htt jB;refine U8 _ _ (lc [8] (k+1,rb (pz p x) t) ⟨by show k+1<=L.length;omega,YJ,by show(t.1++[_]).length<=s.1.length+(k+1);simp;omega,by show s.1.length<=(t.1++[_]).length;simp;omega,WZ⟩ (by show L.length-(k+1)<L.length-k;omega) rfl Sd ?_ ie);unfold fE rb;simp only[List.length_append,List.length_cons,List.length_nil,List.length_drop,List.map_append,List.map_cons,List.map_nil];rfl
   rw[if_neg k10]at WZ;by_cases kb:(nth p.aa.nodes x.toNat).kind=15\/(nth p.aa.nodes x.toNat).kind=16
   ·rw[if_pos kb]at WZ;have VD:∀y∈(nth p.aa.nodes x.toNat).l.drop 1,0<=y/\y.toNat<x.toNat/\bT p.aa.nodes y=18:=fun y hy=>by
     have YG:y∈(nth p.aa.nodes x.toNat).l:=List.mem_of_mem_drop hy;have ZG:=shx.2.1 y YG;refine⟨ZG.1,ZG.2,?_⟩;rcases kb with kb|kb
     ·obtain⟨a,c,_,hb,hl|⟨d,hl,hd⟩⟩:=shx.1.lC kb
      ·rw[hl]at hy;simp at hy;subst hy;exact hb
      ·rw[hl]at hy;simp at hy;rcases hy with rfl|rfl
       ·exact hb
       ·exact hd
     ·obtain⟨a,c,hl,_,hb⟩:=shx.1.dP kb;rw[hl]at hy;simp at hy;subst hy;exact hb
    have WB:1<=(nth p.aa.nodes x.toNat).l.length:=by
     rcases kb with kb|kb
     ·obtain⟨a,c,_,hb,hl|⟨d,hl,hd⟩⟩:=shx.1.lC kb<;>(rw[hl];simp)
     ·obtain⟨a,c,hl,_,hb⟩:=shx.1.dP kb;rw[hl];simp
    have hdt:List.take ((nth p.aa.nodes x.toNat).l.length-1) (List.drop 1 (nth p.aa.nodes x.toNat).l)=List.drop 1 (nth p.aa.nodes x.toNat).l:=List.take_of_length_le jE;have u':=zp h x;rw[Yd]at u';have ZI:=UF (p:=p) node (jt p node n) ((nth p.aa.nodes x.toNat).l.drop 1) t (fun u=>lA u<=1000000/\u.1.length<=s.1.length+300) jF ⟨htt,jB⟩
     (fun y hy u hu=>ih y u (VD y hy).1 (by have:=(VD y hy).2.1;omega) (by have:=(VD y hy).2.1;omega) (VD y hy).2.2 hu.1 (by have:=(VD y hy).2.1;have:=hu.2;omega))
     (fun y hy u hu hf=>⟨A9 h node n y u (VD y hy).1 (by have:=(VD y hy).2.1;omega) (VD y hy).2.2 hu.1 (by have:=(VD y hy).2.1;have:=hu.2;omega),by rw[HU hf];exact hu.2⟩)
    have ZU:=C3 (p:=p) (node:=node) (n:=n) (T:=s.1.length+300) (B:=x.toNat) (fun c u c0 c1 c2 c3 c4=>A9 h node n c u c0 jB c2 c3 jB) ((nth p.aa.nodes x.toNat).l.drop 1) t VD htt jB;generalize kR (jt p node n) ((nth p.aa.nodes x.toNat).l.drop 1) t=KR at*;cases hKR:KR.1 with
    |true=>
     rw[if_pos hKR]at WZ;subst WZ;have ZH:bR=true:=ZH;have Zb:sR=KR.2:=Zb;subst ZH Zb;rw[hKR]at ZI;refine S ?_
     (have W:=jA Zk (jA hxn (jA k10 (hdt)));repeat' (first|refine au fun K hK=>?_|refine aq ?_|(with_reducible refine gR 10 ?_);refine dC 10 ([3,4],[],[72]) [] (bf 0 16) mixed ?_|(refine hK _ _ ?_;clear hK K)|(refine ar ?_ ?_<;>intro hc<;>try exact jz)|refine al 8 ?_|(refine sH ZI ?_)|(refine io ?_ ?_<;>intro hc<;>try exact jz)|refine av ?_|exact jI|(clear hK K)))
     all_goals(refine bu [.tmp 6] ?_;try simp only[go_sem])
    |false=>
     have WY:=ZU.2 hKR;rw[if_neg (by rw[hKR];decide)]at WZ;rw[hKR]at ZI;refine S ?_
     (have W:=jA Zk (jA hxn (jA k10 (hdt)));repeat' (first|refine au fun K hK=>?_|refine aq ?_|(with_reducible refine gR 10 ?_);refine dC 10 ([3,4],[],[72]) [] (bf 0 16) mixed ?_|(refine hK _ _ ?_;clear hK K)|(refine ar ?_ ?_<;>intro hc<;>try exact jz)|refine al 8 ?_|(refine sH ZI ?_)|(refine io ?_ ?_<;>intro hc<;>try exact jz)|refine av ?_|exact jI|(clear hK K)))
     all_goals refine U8 _ _ (lc [8] (k+1,KR.2) ⟨by show k+1<=L.length;omega,ZU.1,by show KR.2.1.length<=s.1.length+(k+1);rw[WY];omega,by show s.1.length<=KR.2.1.length;rw[WY];omega,WZ⟩ (by show L.length-(k+1)<L.length-k;omega) rfl Sd (by simp only[go_sem];(try rfl)) ie)
   ·rw[if_neg kb]at WZ;have kb1:¬(nth p.aa.nodes x.toNat).kind=15:=fun h=>kb (.inl h)
    have kb2:¬(nth p.aa.nodes x.toNat).kind=16:=fun h=>kb (.inr h)
    refine S ?_
    (have W:=jA Zk (jA hxn (jA k10 (jA kb1 (kb2))));repeat' (first|refine au fun K hK=>?_|refine aq ?_|(with_reducible refine gR 10 ?_);refine dC 10 ([3,4],[],[72]) [] (bf 0 16) mixed ?_|(refine hK _ _ ?_;clear hK K)|(refine ar ?_ ?_<;>intro hc<;>try exact jz)|refine al 8 ?_|refine av ?_|exact jI|(clear hK K)))
    refine U8 _ _ (lc [8] (k+1,t) ⟨by show k+1<=L.length;omega,htt,by show t.1.length<=s.1.length+(k+1);omega,htg,WZ⟩ (by show L.length-(k+1)<L.length-k;omega) rfl Sd (by simp only[go_sem];(try rfl)) ie)
  have Va:=key _ _ _ rfl rfl rfl;unfold jt;cases e:(nt (jt p node n) p node (ap p b).l s).1 with
  |true=>rw[e]at Va;simp only[if_true]at Va ⊢;rw[e];exact Va
  |false=>rw[e]at Va;simp only[Bool.false_eq_true,if_false]at Va ⊢;exact Va
def BP{p:ah}(h:nC p)(VB:∀k,k<p.aa.nodes.length->0<=nth p.fn k/\nth p.fn k<p.aa.ak.length)(node:Int)(h0:0<=node)(h1:node.toNat<p.aa.nodes.length):aL prog 171 [.agg (dj p),rI node] (aO lg 3 (dV p node)):=by
 obtain⟨f0,f1⟩:=VB _ h1;have hlf:=h.fn;have haS:=h.aa.many;have XF:(nth p.fn node.toNat).toNat<p.aa.ak.length:=jB;have Wa:=ou h.aa XF;have X2:=h.aa.body _ (cV XF);have hps:=(h.aa.fn _ (cV XF)).2;have WC:=Ch (p:=p) (node:=node) p.aa.nodes.length (nth p.aa.ak (nth p.fn node.toNat).toNat).body (iw (nth p.aa.ak (nth p.fn node.toNat).toNat).params 0,[]);have Xl:=GN h node p.aa.nodes.length (nth p.aa.ak (nth p.fn node.toNat).toNat).body (iw (nth p.aa.ak (nth p.fn node.toNat).toNat).params 0,[]) Wa.1 (by have:=Wa.1;have:=Wa.2;omega) (by have:=Wa.1;have:=Wa.2;omega) X2 (by unfold lA;rw[yp];simp;omega) (by show(iw _ _).length+_<=_;rw[yp];have:=Wa.1;have:=Wa.2;omega);unfold dV;simp only at WC;generalize gv p node p.aa.nodes.length (nth p.aa.ak (nth p.fn node.toNat).toNat).body (iw (nth p.aa.ak (nth p.fn node.toNat).toNat).params 0)=O at*;generalize jt p node p.aa.nodes.length (nth p.aa.ak (nth p.fn node.toNat).toNat).body (iw (nth p.aa.ak (nth p.fn node.toNat).toNat).params 0,[])=R at*;generalize hF:nth p.fn node.toNat=g at*;generalize hG:nth p.aa.ak g.toNat=f at*;refine dG func171 ntmps171 ?_
 (have W:=jA hF hG;repeat' (first|refine au fun K hK=>?_|refine aq ?_|(with_reducible refine gR 1 ?_);refine dE 1 (bf 0 12) mixed ?_|(refine hK _ _ ?_;clear hK K)|(refine ar ?_ ?_<;>intro hc<;>try exact jz)|refine bx 1 ?_|refine bx 2 ?_|refine al 5 ?_|refine al 3 ?_|(refine io ?_ ?_<;>intro hc<;>try exact jz)|refine av ?_|exact jI|(clear hK K)))
 refine iQ (dM.fz 4 3 0 258 3 rfl jC rfl rfl) ?_
 (refine S ?_;try exact jI)
 have U6:=hK;clear hK;have XP:∀k,(iw (f.params.take k) 0).length=min k f.params.length:=fun k=>by rw[yp];simp
 refine dw (S:=Nat) [(7,2),(23,15)] (fun k=>k<=f.params.length) (fun k=>[(23,rI k)]) (fun k=>⟨[],[(1,.var 32 (dj p)),(2,.var 3 [rI node]),(5,.var 181 (fW f)),(3,.var 184 [.rs 4 k 3 k]),(4,.aD 258 3 ((iw (f.params.take k) 0).map lg))]⟩) (fun k=>f.params.length-k) 0 jB (dx rfl bS) ?_;rintro k hk Kr U8;have Wc:(iw (f.params.take k) 0).length=k:=by rw[XP];omega
 by_cases I':k<f.params.length
 ·(refine S ?_;try exact jI)
  (have W:=Wc;repeat' (first|refine au fun K hK=>?_|refine aq ?_|(with_reducible refine gR 1 ?_);refine dE 1 (bf 0 12) mixed ?_|(refine hK _ _ ?_;clear hK K)|(refine ar ?_ ?_<;>intro hc<;>try exact jz)|refine al 6 ?_|refine U6 _ _ ?_|(refine io ?_ ?_<;>intro hc<;>try exact jz)|refine av ?_|exact jI|(clear hK K)))
  refine U8 _ _ (lc [6] (k+1) jB (by show f.params.length-(k+1)<f.params.length-k;omega) rfl Sd ?_ ie);show Hp.mk _ [_,_,_,_,_]=Hp.mk _ [_,_,_,_,(4,.aD _ _ ((iw (f.params.take (k+1)) 0).map lg))];rw[nA I',FD,List.map_append];have:((0:Int)+(f.params.take k).length)=(k:Int):=by simp;omega
  rw[this];rfl
 ·have WO:k=f.params.length:=jB;subst WO;rw[List.take_length]at Wc ⊢;generalize iw f.params 0=V at*;rw[<-Wc];cases hR:R.1 with
  |true=>
   cases O with
   |none=>rw[WC.1]at hR;cases hR
   |some W=>
    have hW:R.2.1=W:=WC.2;rw[hR]at Xl;refine S ?_
    (repeat' (first|refine au fun K hK=>?_|refine aq ?_|(with_reducible refine gR 1 ?_);refine dE 1 (bf 0 12) mixed ?_|(refine hK _ _ ?_;clear hK K)|(refine ar ?_ ?_<;>intro hc<;>try exact jz)|refine al 7 ?_|(refine cl Xl ?_)|refine U6 _ _ ?_|(refine io ?_ ?_<;>intro hc<;>try exact jz)|refine av ?_|exact jI|(clear hK K)))
    subst hW;refine iM [.tmp 4] ?_;exact dn.uI R.2.1 R.2.2 rfl (by show some (Row.aD _ _ _)=some (Row.aD _ _ _);rw[List.map_append]) rfl rfl
  |false=>
   cases O with
   |some W=>rw[WC.1]at hR;cases hR
   |none=>
    rw[hR]at Xl;refine S ?_
    (repeat' (first|refine au fun K hK=>?_|refine aq ?_|(with_reducible refine gR 1 ?_);refine dE 1 (bf 0 12) mixed ?_|(refine hK _ _ ?_;clear hK K)|(refine ar ?_ ?_<;>intro hc<;>try exact jz)|refine al 7 ?_|(refine cl Xl ?_)|refine U6 _ _ ?_|(refine io ?_ ?_<;>intro hc<;>try exact jz)|refine av ?_|exact jI|(clear hK K)))
    refine iM [.tmp 4] ?_;exact dn.nil _ _
end Go.Proofs.YtjpcgmjaipfgdaaGreatDoor
namespace Go.Proofs.YtjpcgmjaipfgdaaGreatDoor
open Go Go.Gd Tryz Go.Gd.MV
def sE(nm:UX)(v:aj):UR:=[(5,.var 9 [rS nm]),(7,.var 54 (bW v))]
attribute [go_sem] sE Bool.false_and Bool.true_and
def D7(nm:UX)(v:aj):∀i r,az (sE nm v) i=some r->aR (fun i=>(ids (sE nm v)).contains i) r.cells=true:=fun i r h=>by
 unfold sE at h;simp only[az]at h;split at h
 ·cases h;rfl
 ·split at h
  ·cases h;rfl
  ·cases h
def Gg(nm:UX)(v:aj):(ids (sE nm v)).Nodup:=by simp[sE,ids]
def JG{e tl:UR}(P':∀i,i<1000->az e i=none){nm:UX}{v:aj}(h5:az tl 5=some (.var 9 [rS nm]))(h7:az tl 7=some (.var 54 (bW v))):∀i r,az (sE nm v) i=some r->az (tie e tl) i=some r:=fun i r h=>by
 unfold sE at h;simp only[az]at h;split at h
 ·rename_i e;subst e;cases h;rw[kg,P' 5 jC];exact h5
 ·split at h
  ·rename_i e;subst e;cases h;rw[kg,P' 7 jC];exact h7
  ·cases h
def Mr(nm:UX)(v:aj)(x:ba):ab prog 173 [.agg (lg x),.pt 5 0 0 0,.pt 7 0 0 0] (sE nm v) (fun r l=>r=rB (decide (x.name=nm/\x.ty=v.ty))/\l=sE nm v):=by
 suffices key:∀b,decide (x.name=nm/\x.ty=v.ty)=b->ab prog 173 [.agg (lg x),.pt 5 0 0 0,.pt 7 0 0 0] (sE nm v) (fun r l=>r=rB b/\l=sE nm v) from key _ rfl
 intro b hb;by_cases c1:x.name=nm
 ·by_cases c2:x.ty=v.ty
  ·rw[decide_eq_true ⟨c1,c2⟩]at hb;subst hb;refine aK func173 ntmps173 ?_;refine S ?_
   (have W:=jA c1 c2;repeat' (first|refine au fun K hK=>?_|refine aq ?_|(refine hK _ _ ?_;clear hK K)|(refine ar ?_ ?_<;>intro hc<;>try exact jz)|refine bx 9 ?_|(refine io ?_ ?_<;>intro hc<;>try exact jz)|refine av ?_|exact jI|(clear hK K)))
   (refine bu [.tmp 4] ?_;try simp only[go_sem])
  ·rw[decide_eq_false (fun h=>c2 h.2)]at hb;subst hb;refine aK func173 ntmps173 ?_;refine S ?_
   (have W:=jA c1 c2;repeat' (first|refine au fun K hK=>?_|refine aq ?_|(refine hK _ _ ?_;clear hK K)|(refine ar ?_ ?_<;>intro hc<;>try exact jz)|refine bx 9 ?_|(refine io ?_ ?_<;>intro hc<;>try exact jz)|refine av ?_|exact jI|(clear hK K)))
   (refine bu [.tmp 4] ?_;try simp only[go_sem])
 ·rw[decide_eq_false (fun h=>c1 h.1)]at hb;subst hb;refine aK func173 ntmps173 ?_;refine S ?_
  (have W:=c1;repeat' (first|refine au fun K hK=>?_|refine aq ?_|(refine hK _ _ ?_;clear hK K)|(refine ar ?_ ?_<;>intro hc<;>try exact jz)|refine bx 9 ?_|(refine io ?_ ?_<;>intro hc<;>try exact jz)|refine av ?_|exact jI|(clear hK K)))
  (refine bu [.tmp 4] ?_;try simp only[go_sem])
def Gx(nm:UX)(v:aj)(L:List ba)(hL:L.length<=100000):ab prog 172 [aO lg 3 L,.eT 173 [.pt 5 0 0 0,.pt 7 0 0 0]] (sE nm v) (fun r l=>r=rI (iA nm v.ty L 0)/\l=sE nm v):=by
 suffices key:∀z,iA nm v.ty L 0=z->ab prog 172 [aO lg 3 L,.eT 173 [.pt 5 0 0 0,.pt 7 0 0 0]] (sE nm v) (fun r l=>r=rI z/\l=sE nm v) from key _ rfl
 intro z hz;refine aK func172 ntmps172 ?_;refine S ?_
 (repeat' (first|refine au fun K hK=>?_|refine aq ?_|(refine hK _ _ ?_;clear hK K)|(refine ar ?_ ?_<;>intro hc<;>try exact jz)|(refine io ?_ ?_<;>intro hc<;>try exact jz)|refine av ?_|exact jI|(clear hK K)))
 have U6:=hK;clear hK;refine dw (S:=Nat) [(4,2),(8,11)] (fun k=>k<=L.length/\∀j,j<k->¬((nth L j).name=nm/\(nth L j).ty=v.ty)) (fun k=>[(8,rI k)]) (fun _=>⟨[5,7],sE nm v⟩) (fun k=>L.length-k) 0 ⟨Nat.zero_le _,fun j h=>jB⟩ (dx rfl bS) ?_;rintro k ⟨hk,Vd⟩ Kr U8;by_cases I':k<L.length
 ·have WE:=Mr nm v (nth L k);by_cases c:(nth L k).name=nm/\(nth L k).ty=v.ty
  ·rw[decide_eq_true c]at WE;have:=O8 I' c Vd;rw[hz]at this;subst this;refine S ?_
   (have W:=I';repeat' (first|refine au fun K hK=>?_|refine aq ?_|(refine hK _ _ ?_;clear hK K)|(refine ar ?_ ?_<;>intro hc<;>try exact jz)|(refine cl WE ?_)|refine U6 _ _ ?_|(refine io ?_ ?_<;>intro hc<;>try exact jz)|refine av ?_|exact jI|(clear hK K)))
   (refine bu [.tmp 4] ?_;try simp only[go_sem])
  ·rw[decide_eq_false c]at WE;refine S ?_
   (have W:=I';repeat' (first|refine au fun K hK=>?_|refine aq ?_|(refine hK _ _ ?_;clear hK K)|(refine ar ?_ ?_<;>intro hc<;>try exact jz)|(refine cl WE ?_)|refine U6 _ _ ?_|(refine io ?_ ?_<;>intro hc<;>try exact jz)|refine av ?_|exact jI|(clear hK K)))
   exact U8 _ _ (dO (k+1) ⟨jB,fun j hj=>by
    by_cases e:j<k
    ·exact Vd j e
    ·rw[show j=k from jB];exact c⟩ (by show L.length-(k+1)<L.length-k;omega) rfl bS)
 ·have:=Qo (nm:=nm) (ty:=v.ty) (l:=L) fun j hj=>Vd j jB
  rw[hz]at this;subst this;refine S ?_
  (have W:=I';repeat' (first|refine au fun K hK=>?_|refine aq ?_|(refine hK _ _ ?_;clear hK K)|(refine ar ?_ ?_<;>intro hc<;>try exact jz)|refine U6 _ _ ?_|(refine io ?_ ?_<;>intro hc<;>try exact jz)|refine av ?_|exact jI|(clear hK K)))
  (refine bu [.tmp 4] ?_;try simp only[go_sem])
end Go.Proofs.YtjpcgmjaipfgdaaGreatDoor
/- Lemmas. No conditions. -/
import Derived.Test.YtghoellpinmenaaGreatDoorSrH
set_option linter.all false
set_option maxHeartbeats 4000000
set_option maxRecDepth 10000
namespace Go.Gd
open Go
def oB(p:ae)(x:Int):bH:=⟨(aJ p x).name,nth p.types (nth (aJ p x).l 0).toNat,nth p.ab x.toNat⟩
def mV(w:Int->List bH->Option (List bH))(vars:List bH):PY->Option (List bH)
 |[]=>none
 |b::l=>(w b vars).or (mV w vars l)
def kD(p:ae)(x:Int)(vars:List bH):List bH:=if(aJ p x).kind=10 then vars++[oB p x]else vars
def nS(w:Int->List bH->Option (List bH))(p:ae)(node:Int):PY->List bH->Option (List bH)
 |[],_=>none
 |x::l,vars=>
  if x=node then some vars
  else(if(aJ p x).kind=15\/(aJ p x).kind=16 then mV w (kD p x vars) ((aJ p x).l.drop 1)else none).or (nS w p node l (kD p x vars))
def ke(p:ae)(node:Int):Nat->Int->List bH->Option (List bH)
 |0,_,_=>none
 |n+1,b,vars=>nS (ke p node n) p node (aJ p b).l vars
def iT:List bM->Int->List bH
 |[],_=>[]
 |x::l,i=>⟨x.name,x.ty,i⟩::iT l (i+1)
def gN(p:ae)(node:Int):List bH:=
 (ke p node p.aa.nodes.length (nth p.aa.av (nth p.fn node.toNat).toNat).body (iT (nth p.aa.av (nth p.fn node.toNat).toNat).params 0)).getD []
abbrev VS:=List bH×List bH
def pM(x:bH)(s:VS):VS:=(s.1++[x],s.2.drop 1)
def mG(m:Nat)(s:VS):VS:=(s.1.take m,s.1.drop m++s.2)
def iU(w:Int->VS->Bool×VS):PY->VS->Bool×VS
 |[],s=>(false,s)
 |b::l,s=>if(w b s).1=true then(true,(w b s).2)else iU w l (w b s).2
def lf(w:Int->VS->Bool×VS)(p:ae)(node:Int):PY->VS->Bool×VS
 |[],s=>(false,s)
 |x::l,s=>
  if x=node then(true,s)
  else if(aJ p x).kind=10 then lf w p node l (pM (oB p x) s)
  else if(aJ p x).kind=15\/(aJ p x).kind=16 then
   (if(iU w ((aJ p x).l.drop 1) s).1=true then(true,(iU w ((aJ p x).l.drop 1) s).2)else lf w p node l (iU w ((aJ p x).l.drop 1) s).2)
  else lf w p node l s
def gY(p:ae)(node:Int):Nat->Int->VS->Bool×VS
 |0,_,s=>(false,s)
 |n+1,b,s=>if(lf (gY p node n) p node (aJ p b).l s).1=true then lf (gY p node n) p node (aJ p b).l s else(false,mG s.1.length (lf (gY p node n) p node (aJ p b).l s).2)
def uE(s:VS)(o:Option (List bH))(r:Bool×VS):Prop:=match o with
 |some R=>r.1=true/\r.2.1=R
 |none=>r.1=false/\r.2.1=s.1
theorem C1{w:Int->VS->Bool×VS}{v:Int->List bH->Option (List bH)}(h:∀b s,uE s (v b s.1) (w b s)):∀(l:PY) (s:VS),uE s (mV v s.1 l) (iU w l s)
 |[],s=>⟨rfl,rfl⟩
 |b::l,s=>by
  have hb:=h b s;unfold mV iU;cases e:v b s.1 with
  |some R=> rw[e]at hb;rw[if_pos hb.1];exact⟨rfl,hb.2⟩
  |none=>
   rw[e]at hb;rw[if_neg (by rw[hb.1];decide),Option.none_or];have:=C1 h l (w b s).2;rw[hb.2]at this;unfold uE at this ⊢;rw[<-hb.2];rw[hb.2];cases e2:mV v s.1 l with
   |some R=>rw[e2]at this;exact this
   |none=>rw[e2]at this;exact⟨this.1,this.2.trans hb.2⟩
def Ns(s:VS)(o:Option (List bH))(r:Bool×VS):Prop:=match o with
 |some R=>r.1=true/\r.2.1=R
 |none=>r.1=false/\r.2.1.take s.1.length=s.1
theorem xP{p:ae}{node:Int}{w:Int->VS->Bool×VS}{v:Int->List bH->Option (List bH)}(h:∀b s,uE s (v b s.1) (w b s)):∀(l:PY) (s:VS),Ns s (nS v p node l s.1) (lf w p node l s)
 |[],s=>⟨rfl,List.take_length⟩
 |x::l,s=>by
  unfold nS lf;by_cases hx:x=node
  ·rw[if_pos hx,if_pos hx];exact⟨rfl,rfl⟩
  rw[if_neg hx,if_neg hx];by_cases k10:(aJ p x).kind=10
  ·rw[if_pos k10,jN,Option.none_or];have:=xP (p:=p) (node:=node) h l (pM (oB p x) s);have e:(pM (oB p x) s).1=kD p x s.1:=by unfold kD;rw[if_pos k10];rfl
   rw[e]at this;cases e2:nS v p node l (kD p x s.1)with
   |some R=>rw[e2]at this;exact this
   |none=>
    rw[e2]at this;refine⟨this.1,?_⟩;have h2:=this.2;rw[e]at h2;have h3:(kD p x s.1).take s.1.length=s.1:=by unfold kD;rw[if_pos k10,List.take_left]
    have hl:s.1.length<=(kD p x s.1).length:=by unfold kD;rw[if_pos k10];simp
    have h4:(lf w p node l (pM (oB p x) s)).2.1.take s.1.length=((lf w p node l (pM (oB p x) s)).2.1.take (kD p x s.1).length).take s.1.length:=by rw[List.take_take,Nat.min_eq_left hl]
    rw[h4,h2,h3]
  rw[if_neg k10];have hl:kD p x s.1=s.1:=by unfold kD;rw[if_neg k10]
  rw[hl];by_cases kb:(aJ p x).kind=15\/(aJ p x).kind=16
  ·rw[if_pos kb,if_pos kb];have hk:=C1 h ((aJ p x).l.drop 1) s;cases e:mV v s.1 ((aJ p x).l.drop 1)with
   |some R=>rw[e]at hk;rw[if_pos hk.1];exact⟨rfl,hk.2⟩
   |none=>
    rw[e]at hk;rw[if_neg (by rw[hk.1];decide),Option.none_or];have:=xP (p:=p) (node:=node) h l (iU w ((aJ p x).l.drop 1) s).2;rw[hk.2]at this;cases e2:nS v p node l s.1 with
    |some R=>rw[e2]at this;exact this
    |none=>rw[e2]at this;refine⟨this.1,?_⟩;have h2:=this.2;rw[hk.2]at h2;exact h2
  ·rw[if_neg kb,if_neg kb,Option.none_or];exact xP (p:=p) (node:=node) h l s
theorem yZ{p:ae}{node:Int}:∀(n:Nat) (b:Int) (s:VS),uE s (ke p node n b s.1) (gY p node n b s)
 |0,b,s=>⟨rfl,rfl⟩
 |n+1,b,s=>by
  have:=xP (p:=p) (node:=node) (yZ (p:=p) (node:=node) n) (aJ p b).l s;unfold ke gY;cases e:nS (ke p node n) p node (aJ p b).l s.1 with
  |some R=>rw[e]at this;rw[if_pos this.1];exact this
  |none=>rw[e]at this;rw[if_neg (by rw[this.1];decide)];exact⟨rfl,this.2⟩
def jx(s:VS):Nat:=s.1.length+s.2.length
def Fg(x:bH)(s:VS){T:Nat}(h:jx s<=T)(h1:s.1.length+1<=T):jx (pM x s)<=T:=by unfold jx pM at*;simp only[List.length_append,List.length_cons,List.length_nil,List.length_drop];omega
def Iy(m:Nat)(s:VS):jx (mG m s)=jx s:=by unfold jx mG;simp only[List.length_append,List.length_take,List.length_drop];omega
variable{n:Nat}
def C0{p:ae}{node:Int}{b:Int}{s:VS}(h:(gY p node n b s).1=false):(gY p node n b s).2.1=s.1:=by
 have:=yZ (p:=p) (node:=node) n b s;cases e:ke p node n b s.1 with
 |some R=>rw[e]at this;rw[this.1]at h;cases h
 |none=>rw[e]at this;exact this.2
def oa(w:Int->VS->Bool×VS):PY->VS->Int->Int
 |[],_,_=>-1
 |b::l,s,i=>if(w b s).1=true then i else oa w l (w b s).2 (i+1)
theorem GM(w:Int->VS->Bool×VS):∀(l:PY) (s:VS) (i:Int),0<=i->(iU w l s).1=decide (0<=oa w l s i)
 |[],s,i,_=>rfl
 |b::l,s,i,h=>by
  unfold iU oa;split
  ·exact(decide_eq_true h).symm
  ·exact GM w l _ (i+1) jB
def Cl(w:Int->VS->Bool×VS)(b:Int)(l:PY)(s:VS):iU w (b::l) s=if(w b s).1=true then(true,(w b s).2)else iU w l (w b s).2:=by conv=>lhs;unfold iU
def PM(w:Int->VS->Bool×VS)(b:Int)(l:PY)(s:VS)(i:Int):oa w (b::l) s i=if(w b s).1=true then i else oa w l (w b s).2 (i+1):=by conv=>lhs;unfold oa
@[go_sem] def j1L(f:FuncId)(cs:PW):(AV.dW f cs).cells=[.dW f cs]:=(rfl)
@[go_sem] def j58(f:FuncId)(cs:PW):(AV.dW f cs).one=true:=by simp[AV.one]
def uf{α:Type}[Inhabited α]{l:List α}{k:Nat}(h:k<n):nth (l.take n) k=nth l k:=by unfold nth;rw[List.getD_eq_getElem?_getD,List.getElem?_take,if_pos h,List.getD_eq_getElem?_getD]
def lJ(name:P0)(ty:Int):List bH->Int->Int
 |[],_=>-1
 |v::l,i=>if v.name=name/\v.ty=ty then i else lJ name ty l (i+1)
theorem FG(name:P0)(ty:Int):∀(l:List bH) (i:Nat),0<=lJ name ty l (i:Int)->∃k:Nat,lJ name ty l (i:Int)=(i:Int)+k/\k<l.length/\((nth l k).name=name/\(nth l k).ty=ty)/\∀j,j<k->¬((nth l j).name=name/\(nth l j).ty=ty)
 |[],i,h=>by unfold lJ at h;omega
 |v::l,i,h=>by
  unfold lJ at h ⊢;by_cases c:v.name=name/\v.ty=ty
  ·rw[if_pos c];exact⟨0,jB,jE,c,fun j hj=>jB⟩
  ·rw[if_neg c]at h ⊢;obtain⟨k,e,hk,g,f⟩:=FG name ty l (i+1) (by push_cast;exact h);refine⟨k+1,by push_cast at e ⊢;omega,by simp;omega,g,fun j hj=>?_⟩;cases j with
   |zero=>exact c
   |succ j=>exact f j jB
theorem E1(name:P0)(ty:Int):∀(l:List bH) (i:Nat),lJ name ty l (i:Int)<0->∀j,j<l.length->¬((nth l j).name=name/\(nth l j).ty=ty)
 |[],i,h,j,hj=>by simp at hj
 |v::l,i,h,j,hj=>by
  unfold lJ at h;by_cases c:v.name=name/\v.ty=ty
  ·rw[if_pos c]at h;omega
  ·rw[if_neg c]at h;cases j with
   |zero=>exact c
   |succ j=>exact E1 name ty l (i+1) (by push_cast;exact h) j (by simpa using hj)
section
variable {σ:Type}(tm:σ->Int)(st:σ->σ)(se:σ->P0->ai->Option σ)(E:List ba)
def bV:Nat->σ->Nat->Bool->σ×Nat×Bool
 |0,s,k,b=>(s,k,b)
 |n+1,s,k,b=>
  if b=false/\k<E.length/\(nth E k).at_=tm s then
   match se s (nth E k).name (nth E k).v with
   |some s'=>bV n s' (k+1) false
   |none=>(s,k,true)
  else(s,k,b)
def dD(t:Int):Nat->σ->Nat->Bool->σ×Nat×Bool
 |0,s,k,b=>(s,k,b)
 |n+1,s,k,b=>
  if tm (bV tm se E (E.length+1) s k b).1=t then bV tm se E (E.length+1) s k b
  else if tm (st (bV tm se E (E.length+1) s k b).1)=tm (bV tm se E (E.length+1) s k b).1 then(st (bV tm se E (E.length+1) s k b).1,(bV tm se E (E.length+1) s k b).2)
  else dD t n (st (bV tm se E (E.length+1) s k b).1) (bV tm se E (E.length+1) s k b).2.1 (bV tm se E (E.length+1) s k b).2.2
def kg(t:Int)(r:σ×Nat×Bool):Int:=if r.2.1<E.length/\(nth E r.2.1).at_<=t then r.2.1+1 else 0
end
def dB(t:Int):Int:=min (max t 0) 200
section
variable {σ:Type}{tm:σ->Int}{st:σ->σ}{se:σ->P0->ai->Option σ}{E:List ba}
structure jj(tm:σ->Int)(st:σ->σ)(se:σ->ByteArray->ai->Option σ)(E:List ba)(I:σ->Prop):Prop where
 se:∀s k s',I s->k<E.length->se s (nth E k).name (nth E k).v=some s'->I s'/\tm s'=tm s
 st:∀s,I s->tm s<200->I (st s)/\(tm (st s)=tm s\/tm (st s)=tm s+1)
 tm:∀s,I s->0<=tm s
variable {I:σ->Prop}
theorem rK(h:jj tm st se E I):∀(n:Nat) (s:σ) (k:Nat) (b:Bool),I s->I (bV tm se E n s k b).1/\tm (bV tm se E n s k b).1=tm s/\k<=(bV tm se E n s k b).2.1/\(k<=E.length->(bV tm se E n s k b).2.1<=E.length)
 |0,s,k,b,hs=>⟨hs,rfl,Nat.le_refl _,fun h=>h⟩
 |n+1,s,k,b,hs=>by
  unfold bV;split
  ·rename_i hc;split
   ·rename_i s' Ur;obtain⟨a1,a2⟩:=h.se s k s' hs hc.2.1 Ur;obtain⟨b1,b2,b3,b4⟩:=rK h n s' (k+1) false a1;exact⟨b1,b2.trans a2,jB,fun _=>b4 jB⟩
   ·exact⟨hs,rfl,Nat.le_refl _,fun h=>h⟩
  ·exact⟨hs,rfl,Nat.le_refl _,fun h=>h⟩
theorem vO(h:jj tm st se E I){t:Int}(ht:t<=200):∀(n:Nat) (s:σ) (k:Nat) (b:Bool),I s->tm s<=t->k<=E.length->I (dD tm st se E t n s k b).1/\(dD tm st se E t n s k b).2.1<=E.length/\tm (dD tm st se E t n s k b).1<=t/\k<=(dD tm st se E t n s k b).2.1
 |0,s,k,b,hs,h1,hk=>⟨hs,hk,h1,Nat.le_refl _⟩
 |n+1,s,k,b,hs,h1,hk=>by
  obtain⟨a1,a2,a3,a4⟩:=rK h (E.length+1) s k b hs;unfold dD;split
  ·exact⟨a1,a4 hk,jB,a3⟩
  rename_i QD;have Qd:tm (bV tm se E (E.length+1) s k b).1<200:=jB;obtain⟨c1,c2⟩:=h.st _ a1 Qd;split
  ·exact⟨c1,a4 hk,by show tm (st (bV tm se E (E.length+1) s k b).1)<=t;omega,a3⟩
  ·rename_i WC;obtain⟨d1,d2,d3,d4⟩:=vO h ht n _ (bV tm se E (E.length+1) s k b).2.1 (bV tm se E (E.length+1) s k b).2.2 c1 jB (a4 hk);exact⟨d1,d2,d3,jB⟩
theorem FO{K:Nat}(hK:K<=E.length):∀(n m:Nat) (s:σ) (k:Nat) (b:Bool),k<=K->K-k<n->K-k<m->(bV tm se E n s k b).2.1<=K->(bV tm se (E.take K) m s k b).1=(bV tm se E n s k b).1/\(bV tm se (E.take K) m s k b).2.1=(bV tm se E n s k b).2.1/\((bV tm se E n s k b).2.1<K->(bV tm se (E.take K) m s k b).2.2=(bV tm se E n s k b).2.2)
 |0,_,s,k,b,_,h,_,_=>by omega
 |_,0,s,k,b,_,_,h,_=>jB
 |n+1,m+1,s,k,b,hk,hn,hm,P'=>by
  have hl:(E.take K).length=K:=by rw[List.length_take];omega
  unfold bV at P' ⊢;rw[hl];by_cases hc:b=false/\k<E.length/\(nth E k).at_=tm s
  ·rw[if_pos hc]at P' ⊢;by_cases UW:k<K
   ·have e:nth (E.take K) k=nth E k:=uf UW;rw[e,if_pos ⟨hc.1,UW,hc.2.2⟩];cases hs:se s (nth E k).name (nth E k).v with
    |none=>exact⟨rfl,rfl,fun _=>rfl⟩
    |some s'=> rw[hs]at P';exact FO hK n m s' (k+1) false jB jB jB P'
   ·rw[if_neg (fun h=>UW h.2.1)];cases hs:se s (nth E k).name (nth E k).v with
    |none=>exact⟨rfl,rfl,fun h=>(UW h).elim⟩
    |some s'=>
     rw[hs]at P';have P':(bV tm se E n s' (k+1) false).2.1<=K:=P';have:∀(n:Nat) (s:σ) (k:Nat) (b:Bool),k<=(bV tm se E n s k b).2.1:=fun n=>by
      induction n with
      |zero=>intro s k b;exact Nat.le_refl _
      |succ n ih=>
       intro s k b;unfold bV;split
       ·split
        ·rename_i s2 _;have:=ih s2 (k+1) false;omega
        ·exact Nat.le_refl _
       ·exact Nat.le_refl _
     have:=this n s' (k+1) false;omega
  ·rw[if_neg hc];rw[if_neg hc]at P';rw[if_neg (fun h=>hc ⟨h.1,jB,by rw[<-h.2.2,uf h.2.1]⟩)];exact⟨rfl,rfl,fun _=>rfl⟩
def DI:∀(n:Nat) (s:σ) (k:Nat) (b:Bool) (t:Int),k<=(dD tm st se E t n s k b).2.1:=fun n=>by
 have hs:∀(n:Nat) (s:σ) (k:Nat) (b:Bool),k<=(bV tm se E n s k b).2.1:=fun n=>by
  induction n with
  |zero=>intro s k b;exact Nat.le_refl _
  |succ n ih=>
   intro s k b;unfold bV;split
   ·split
    ·rename_i s2 _;have:=ih s2 (k+1) false;omega
    ·exact Nat.le_refl _
   ·exact Nat.le_refl _
 induction n with
 |zero=>intro s k b t;exact Nat.le_refl _
 |succ n ih=>
  intro s k b t;unfold dD;have:=hs (E.length+1) s k b;split
  ·exact this
  split
  ·exact this
  ·have:=ih (st (bV tm se E (E.length+1) s k b).1) (bV tm se E (E.length+1) s k b).2.1 (bV tm se E (E.length+1) s k b).2.2 t;omega
theorem Bm{K:Nat}(hK:K<=E.length){t:Int}:∀(n:Nat) (s:σ) (k:Nat) (b b':Bool),k<=K->(k<K->b'=b)->(dD tm st se E t n s k b).2.1<=K->(dD tm st se (E.take K) t n s k b').1=(dD tm st se E t n s k b).1/\(dD tm st se (E.take K) t n s k b').2.1=(dD tm st se E t n s k b).2.1
 |0,s,k,b,b',_,_,_=>⟨rfl,rfl⟩
 |n+1,s,k,b,b',hk,hb,P'=>by
  have hl:(E.take K).length=K:=by rw[List.length_take];omega
  have hS:(bV tm se (E.take K) ((E.take K).length+1) s k b').1=(bV tm se E (E.length+1) s k b).1/\(bV tm se (E.take K) ((E.take K).length+1) s k b').2.1=(bV tm se E (E.length+1) s k b).2.1/\((bV tm se E (E.length+1) s k b).2.1<K->(bV tm se (E.take K) ((E.take K).length+1) s k b').2.2=(bV tm se E (E.length+1) s k b).2.2):=by
   have Sg:(bV tm se E (E.length+1) s k b).2.1<=K:=by
    unfold dD at P';split at P'
    ·exact P'
    split at P'
    ·exact P'
    ·exact Nat.le_trans (DI _ _ _ _ _) P'
   by_cases UW:k<K
   ·rw[hb UW,hl];exact FO hK _ _ s k b hk jB jB Sg
   ·have UW:k=K:=jB;subst UW;have e1:bV tm se (E.take k) ((E.take k).length+1) s k b'=(s,k,b'):=by
     unfold bV;rw[if_neg (fun h=>by have:=h.2.1;omega)]
    have e2:(bV tm se E (E.length+1) s k b).1=s/\(bV tm se E (E.length+1) s k b).2.1=k:=by
     unfold bV at Sg ⊢;split
     ·rename_i hc;rw[if_pos hc]at Sg;cases hs:se s (nth E k).name (nth E k).v with
      |none=>exact⟨rfl,rfl⟩
      |some s'=>
       rw[hs]at Sg;have h3:∀(n:Nat) (s:σ) (k:Nat) (b:Bool),k<=(bV tm se E n s k b).2.1:=fun n=>by
        induction n with
        |zero=>intro s k b;exact Nat.le_refl _
        |succ n ih=>
         intro s k b;unfold bV;split
         ·split
          ·rename_i s2 _;have:=ih s2 (k+1) false;omega
          ·exact Nat.le_refl _
         ·exact Nat.le_refl _
       have:=h3 E.length s' (k+1) false;have Sg:(bV tm se E E.length s' (k+1) false).2.1<=k:=Sg;omega
     ·exact⟨rfl,rfl⟩
    rw[e1,e2.1,e2.2];exact⟨rfl,rfl,fun h=>jB⟩
  obtain⟨h1,h2,h3⟩:=hS;unfold dD at P' ⊢;rw[h1];split
  ·exact⟨h1,h2⟩
  ·rename_i QD;rw[if_neg QD]at P';split
   ·exact⟨rfl,h2⟩
   ·rename_i WC;rw[if_neg WC]at P';rw[h2];have T4:(bV tm se E (E.length+1) s k b).2.1<=K:=Nat.le_trans (DI _ _ _ _ _) P';exact Bm hK n _ _ _ _ T4 h3 P'
end
structure Lw(R R':RS):Prop where
 nf:R'.nf<=R.nf
 low:∀k,k+1<R'.nf->nth R'.ak k=nth R.ak k
 len:R'.ak.length=R.ak.length
 st:R'.status=R.status\/(R'.status=2/\R'.nf=0)
def Lw.refl(R:RS):Lw R R:=⟨Nat.le_refl _,fun _ _=>rfl,rfl,.inl rfl⟩
theorem Lw.trans{a b c:RS}(h:Lw a b)(k:Lw b c):Lw a c:=⟨Nat.le_trans k.nf h.nf,fun i hi=>(k.low i hi).trans (h.low i (by have:=k.nf;omega)),k.len.trans h.len,by
 rcases k.st with e|e
 ·rcases h.st with e'|e'
  ·exact .inl (e.trans e')
  ·exact .inr ⟨e.trans e'.1,by have:=k.nf;omega⟩
 ·exact .inr e⟩
variable{R:RS}
def AG(h:R.nf<=R.ak.length)(h1:1<=R.nf)(f:aP):Lw R (R.dY (R.nf-1) f):=⟨Nat.le_refl _,fun k hk=>by have hk:k+1<R.nf:=hk;rw[RS.bQ jB,jN],RS.aT.symm,.inl rfl⟩
def vH(h:R.nf<=R.ak.length)(h1:1<=R.nf):Lw R R.on:=AG h h1 _
def wO(h:R.nf<=R.ak.length)(h1:1<=R.nf)(p:ae)(a:Int)(v:ai):Lw R (R.store p a v):=
 (AG h h1 _).trans (vH (R:=R.br p a v) (by show R.nf<=(R.ak.set _ _).length;simpa using h) h1)
def DA(h:R.nf<=R.ak.length)(h1:1<=R.nf)(b:Int):Lw R (R.aZ b):=AG h h1 _
def CO(R:RS):Lw R R.pop:=⟨Nat.sub_le _ _,fun _ _=>rfl,rfl,.inl rfl⟩
def Db(h:R.nf<=R.ak.length)(p:ae)(v:ai):Lw R (R.bh p v):=by
 unfold RS.bh;split
 ·rename_i e;exact⟨Nat.sub_le _ _,fun _ _=>rfl,rfl,.inr ⟨rfl,by show R.nf-1=0;omega⟩⟩
 ·have h1:1<=R.pop.nf:=by show 1<=R.nf-1;omega
  have h2:R.pop.nf<=R.pop.ak.length:=by show R.nf-1<=R.ak.length;omega
  split
  ·exact(CO R).trans (wO h2 h1 _ _ _)
  ·exact(CO R).trans (vH h2 h1)
theorem ve(p:ae):∀(n:Nat) (R:RS),R.nf<=R.ak.length->(R.status≠2->1<=R.nf)->Lw R (io p n R)
 |0,R,_,_=>Lw.refl R
 |n+1,R,h,h1=>by
  unfold io;split
  ·exact Lw.refl R
  rename_i e;have hn:=h1 e;split
  ·have ht:=Db h p (vZ (nth p.aa.av R.aF.fn.toNat).ret);refine ht.trans (ve p n _ (by have:=ht.nf;have:=ht.len;omega) fun e2=>?_);unfold RS.bh at e2 ⊢;split
   ·rename_i e3;rw[if_pos e3]at e2;exact(e2 rfl).elim
   ·split<;>(show 1<=R.nf-1;omega)
  split
  ·exact Lw.refl R
  ·have hc:Lw R R.cut:=⟨Nat.le_refl _,fun k hk=>by
    have hk:k+1<R.nf:=hk;show nth (R.ak.set _ _) k=_;rw[Go.Gd.bQ _ _ _ _ jB,jN],by show(R.ak.set _ _).length=_;simp,.inl rfl⟩
   exact hc.trans (ve p n _ (by show R.nf<=(R.ak.set _ _).length;simpa using h) h1)
def AW(p:ae)(a:Int):Prop:=1<=(aJ p a).l.length/\(aJ p (nth (aJ p a).l 0)).kind=21
structure Mv(p:ae)(inp:List Int)(a:Int)(R R':RS):Prop where
 out:∃o:List ByteArray,R'.aS=R.aS++o/\o.length<=1
 hl:R.heap.length<=R'.heap.length
 len:∀k,k<R.heap.length->(nth R'.heap k).length=(nth R.heap k).length
 i0:R.in_<=R'.in_
 i1:R'.in_=R.in_\/R'.in_<=inp.length
 nf:R'.nf<=R.nf\/(R'.nf<=R.nf+1/\AW p a)
 low:∀k,k+1<R.nf->k+1<R'.nf->nth R'.ak k=nth R.ak k
 st:R'.status=R.status\/(R'.status=2/\R'.nf=0)
 bL:R'.bL=R.bL
def Mv.refl(p:ae)(inp:PY)(a:Int)(R:RS):Mv p inp a R R:=⟨⟨[],jE⟩,Nat.le_refl _,fun _ _=>rfl,Int.le_refl _,.inl rfl,.inl jl,fun _ _ _=>rfl,.inl rfl,rfl⟩
def Mv.lw{p:ae}{inp:PY}{a:Int}{R1 R2:RS}(h:Mv p inp a R R1)(k:Lw R1 R2)(c:Kept R1 R2):Mv p inp a R R2:=
 ⟨by rw[c.aS];exact h.out,by rw[c.heap];exact h.hl,by rw[c.heap];exact h.len,by rw[c.in_];exact h.i0,by rw[c.in_];exact h.i1,by have:=k.nf;exact h.nf.elim (fun e=>.inl jB) fun e=>.inr ⟨jB,e.2⟩,
  fun i h1 h2=>(k.low i h2).trans (h.low i h1 (by have:=k.nf;omega)),by
   rcases k.st with e|e
   ·rcases h.st with e'|e'
    ·exact .inl (e.trans e')
    ·exact .inr ⟨e.trans e'.1,by have:=k.nf;omega⟩
   ·exact .inr e,c.bL.trans h.bL⟩
def Ba(R:RS)(p:ae)(a:Int)(v:ai):Kept R (R.store p a v):=⟨rfl,rfl,rfl,rfl,rfl⟩
def FP(R:RS)(p:ae)(inp:PY)(a x:Int)(hf:R.nf=R.ak.length)(hc:AW p a):Mv p inp a R (R.call p x).1:=by
 unfold RS.call;simp only;split
 ·exact Mv.refl _ _ _ R
 split
 ·exact Mv.refl _ _ _ R
 ·refine⟨⟨[],by simp[RS.push]⟩,Nat.le_refl _,fun _ _=>rfl,Int.le_refl _,.inl rfl,.inr ⟨Nat.le_refl _,hc⟩,fun k h1 h2=>?_,.inl rfl,rfl⟩;show nth (R.ak++[_]) k=_;rw[lB jB]
def Ib(R:RS)(p:ae)(inp:PY)(a x:Int):Mv p inp a R (R.fresh p x).1:=by
 unfold RS.fresh;simp only;split
 ·exact Mv.refl _ _ _ R
 split
 ·exact Mv.refl _ _ _ R
 split
 ·exact Mv.refl _ _ _ R
 ·refine⟨⟨[],jE⟩,by show _<=(R.heap++[_]).length;simp,fun k hk=>?_,Int.le_refl _,.inl rfl,.inl jl,fun _ _ _=>rfl,.inl rfl,rfl⟩;show(nth (R.heap++[_]) k).length=_;rw[lB hk]
def Im(R:RS)(p:ae)(x:Int):(R.fresh p x).1.nf=R.nf/\(R.fresh p x).1.ak=R.ak:=by
 unfold RS.fresh;simp only
 (repeat' split)<;>exact⟨rfl,rfl⟩
def PR(R:RS)(p:ae)(inp:PY)(a:Int)(h:R.nf<=R.ak.length)(h1:1<=R.nf):Mv p inp a R (R.put p a).1:=by
 unfold RS.put;simp only;split
 ·exact Mv.refl _ _ _ R
 split
 ·exact Mv.refl _ _ _ R
 split
 ·exact Mv.refl _ _ _ R
 ·have hm:∀(i:Nat) (j:Nat) (y:Int),Mv p inp a R { R with heap:=R.heap.set i ((nth R.heap i).set j y) }:=fun i j y=>by
   refine⟨⟨[],jE⟩,by show _<=(R.heap.set _ _).length;simp,fun k hk=>?_,Int.le_refl _,.inl rfl,.inl jl,fun _ _ _=>rfl,.inl rfl,rfl⟩;show(nth (R.heap.set _ _) k).length=_;by_cases e:i<R.heap.length
   ·rw[Go.Gd.bQ _ _ _ _ e];split
    ·rename_i e2;subst e2;simp
    ·rfl
   ·rw[List.set_eq_of_length_le jB]
  exact(hm _ _ _).lw (vH (by exact h) h1) ⟨rfl,rfl,rfl,rfl,rfl⟩
theorem Eb{p:ae}{node:Int}(hl:∀b,(aJ p b).l.length<=300):∀(n:Nat) (b:Int) (vars r:List bH),ke p node n b vars=some r->r.length<=vars.length+300*n
 |0,b,vars,r,h=>by cases h
 |n+1,b,vars,r,h=>by
  have ih:=Eb (node:=node) hl n;have aC:∀(l:PY) (vs r:List bH),mV (ke p node n) vs l=some r->r.length<=vs.length+300*n:=fun l=>by
   induction l with
   |nil=>intro vs r h;cases h
   |cons b l ihl=>
    intro vs r h;unfold mV at h;cases e:ke p node n b vs with
    |none=>rw[e]at h;exact ihl vs r h
    |some R=>rw[e]at h;cases h;exact ih b vs _ e
  have sc:∀(l:PY) (vs r:List bH),nS (ke p node n) p node l vs=some r->r.length<=vs.length+l.length+300*n:=fun l=>by
   induction l with
   |nil=>intro vs r h;cases h
   |cons x l ihl=>
    intro vs r h;have Vv:(kD p x vs).length<=vs.length+1:=by unfold kD;split<;>simp
    unfold nS at h;simp only[List.length_cons];split at h
    ·cases h;omega
    ·cases e:(if(aJ p x).kind=15\/(aJ p x).kind=16 then mV (ke p node n) (kD p x vs) ((aJ p x).l.drop 1)else none)with
     |none=>rw[e]at h;have:=ihl _ r h;omega
     |some R=>
      rw[e]at h;cases h;split at e
      ·have:=aC _ _ _ e;omega
      ·cases e
  have:=sc _ _ _ h;have:=hl b;omega
variable{P:P6}{f:FuncId}{K:PT}{r0:AV}{tl:PV}
def LL{args:PW}{H:Hp}(hc:af P f args [] fun r l=>r=r0/\l=R.rows)(hH:H=⟨[],tl⟩)(hl:∀i r,aB tl i=some r->(i=0\/4<=i)/\i<1000)(h2:aU cV args=true)(h0:aQ P f=true)(k:K r0 ⟨[],R.cI tl⟩):dp P (.raw (.func (.func f) #[] #[])) args H K:=by
 subst hH;refine ko h0 fun w vs h1 h3=>?_
 have Qe:∀i r,aB R.rows i=some r->aB tl i=none:=fun i r hi=>by
  cases e:aB tl i with
  |none=>rfl
  |some x=> have:=hl i x e;rw[RS.ei i this.1 this.2]at hi;cases hi
 refine(vt (H:=⟨[],tl⟩) (K:=fun r H'=>r=r0/\∃l',H'=⟨[],l'⟩/\∀i,aB l' i=aB (R.cI tl) i) hc (fun i r hi=>by cases hi) (by simpa[ids]using h2) (fun i r hi=>by cases hi) (fun r l' ⟨e1,e2⟩=>⟨fun i s hs=>?_,by rw[e2];exact R.e9,e1,_,rfl,fun i=>?_⟩) h1 h3).mono ?_
 ·subst e2;exact .inr (Qe i s hs)
 ·subst e2;rw[qY _ _ _ (fun _ _ _=>trivial) R.e9,RS.cF,jc]
 ·rintro e W ⟨v,r,H',w',rfl,rfl,⟨rfl,l',rfl,Rb⟩,g1,g2,g3⟩;exact⟨v,_,⟨[],R.cI tl⟩,w',rfl,rfl,k,wF Rb g1,g2,{ g3 with base:=rfl }⟩
def Gk{S:Type}{W:List (Nat×Nat)}{ok:S->Prop}{J:S->List (Nat×AV)}{G:S->Hp}{μ:S->Nat}{F₀ F:PW}{H:Hp}{t:P1}{pre post:PW}{R':RS}(s:S)(tl:PV)(j:Nat)(x:Row)(h1:ok s)(h2:μ s<n)
  (hH:H=⟨[],R'.e t pre post (tl++[(j,x)])⟩) (hG:G s=⟨[],R'.e t pre post tl⟩) (hj:4<=j/\j<1000) (RL:aB tl j=none) (hp:aU cV pre=true) (hq:aU cV post=true) (hr:∀i r,aB tl i=some r->aU cV r.cells=true) (hn:(ids tl).Nodup)
  (h3:bc (fun i=>[j].contains i) H F (jL (J s) (lm W F₀)):=by exact gJ):Next n W ok J G μ F₀ F H:=by
 have hD:∀i,i≠j->(fun i=>[j].contains i) i=false:=fun i hi=>by simp[hi]
 have Qe:∀{R:RS} {t:P1} {pre post:PW} i,i∈ids (R.e t pre post [])->i≠j:=fun i hi e=>by subst e;exact(iu _ _).1 hi (RS.no _ hj.1 hj.2)
 subst hH;refine zo (fun i=>[j].contains i) s h1 h2 rfl ?_ ?_ h3
 ·show eL _ (R'.e t pre post _);rw[RS.cA];refine pV _ _ _ (oZ _ _ RS.nodup fun i r hi=>iN (fun k hk=>?_) _ (RS.closed hp hq i r hi)) (pV _ _ _ (oZ _ _ hn fun i r hi=>iN (fun _ h=>by cases h) _ (hr i r hi)) (sP _ _ fun i hi=>?_))
  ·unfold df;rw[hD k (Qe k (List.contains_iff_mem.1 hk))];rfl
  ·simp[ids]at hi;subst hi;simp
 ·rw[hG];show Hp.mk [] (dq _ (R'.e t pre post _))=Hp.mk [] _;rw[RS.cA,pJ,pJ,oL _ _ (fun i hi=>hD i (Qe i hi)),oL _ tl (fun i hi=>hD i fun e=>by subst e;exact(iu _ _).1 hi RL),tL _ [(j,x)] (fun i hi=>by simp[ids]at hi;subst hi;simp),List.append_nil];exact congrArg (Hp.mk []) (RS.cA tl).symm
structure ki(lo:Nat)(e:List (Nat×Row)):Prop where
 no:∀i,lo<=i->i<1000->aB e i=none
 nodup:(ids e).Nodup
 closed:∀i r,aB e i=some r->aU (fun i=>(ids e).contains i) r.cells=true
def oF(lo:Nat)(tl:PV):Prop:=∀i r,aB tl i=some r->lo<=i/\i<1000
variable{lo:Nat}
def ki.iJ{e:PV}(h:ki lo e)(hl:oF lo tl):Lays (fun tl=>e++tl) tl:=⟨fun i=>by rw[jc,List.append_nil],fun i r hi=>by show aB (e++[]) i=none;rw[List.append_nil];exact h.no i (hl i r hi).1 (hl i r hi).2⟩
variable{e':PV}{B:PZ}
def cG{args:PW}{H:Hp}{e:PV}(hc:af P f args e fun r l'=>r=r0/\l'=e')(hH:H=⟨B,e++tl⟩)
  (h1:ki lo e) (h2:ki lo e') (hs:∀i,aB e i≠none->aB e' i≠none) (hl:oF lo tl) (ha:aU (fun i=>(ids e).contains i) args=true) (h0:aQ P f=true) (k:K r0 ⟨B,e'++tl⟩):dp P (.raw (.func (.func f) #[] #[])) args H K:=by
 subst hH;refine ko h0 (tJ (E:=fun tl=>e++tl) (E':=fun tl=>e'++tl) ?_ (h1.iJ hl) (h2.iJ hl) ?_ ?_ ?_ k ?_)
 ·simp only[List.append_nil];exact hc
 ·simp only[List.append_nil];exact h2.nodup
 ·simp only[List.append_nil];exact ha
 ·simp only[List.append_nil];exact h1.closed
 ·simp only[List.append_nil];exact hs
def gI(lo:Nat):P5:=fun i=>decide (lo<=i/\i<1000)
theorem ki.gI{lo:Nat}{e:PV}(h:ki lo e){i:Nat}(hi:i∈ids e):gI lo i=false:=by
 unfold Go.Gd.gI;refine decide_eq_false fun h'=>?_
 exact(iu _ _).1 hi (h.no i h'.1 h'.2)
def ki.free{e0:PV}(k1:ki lo e0)(k2:ki lo e')(hB:ids e0=B)(hl:oF lo tl) :
  B.all (df (Go.Gd.gI lo))=true/\eL (Go.Gd.gI lo) (e'++tl)/\dq (Go.Gd.gI lo) (e'++tl)=e':=by
 have RL:∀i∈ids tl,Go.Gd.gI lo i=true:=fun i hi=>by obtain⟨r,hr⟩:=Option.ne_none_iff_exists'.1 ((iu _ _).1 hi);exact decide_eq_true (hl i r hr)
 refine⟨?_,?_,?_⟩
 ·rw[List.all_eq_true];intro i hi;rw[<-hB]at hi;unfold df;rw[k1.gI hi];rfl
 ·refine pV _ _ _ (oZ _ _ k2.nodup fun i r hi=>iN (fun j hj=>?_) _ (k2.closed i r hi)) (sP _ _ RL);unfold df;rw[k2.gI (List.contains_iff_mem.1 hj)];rfl
 ·rw[pJ,oL _ _ (fun i hi=>k2.gI hi),tL _ _ RL,List.append_nil]
def hn(a k:Nat):Nat:=1000+(32*k+a)
def xV(a k:Nat):1000<=hn a k:=Nat.le_add_right _ _
@[go_sem] def j8X(a k n:Nat)(h:n<1000):(hn a k=n)=False:=by have:=xV a k;simp;omega
def GG:∀(l:PV) (i j:Nat) (r:Row),j∈ids (eD l i r)<->j=i\/j∈ids l:=fun l i j r=>by rw[iu,iu,nD];by_cases e:j=i<;>simp[e]
theorem EY:∀(l:PV) (i:Nat) (r:Row),(ids l).Nodup->(ids (eD l i r)).Nodup
 |[],i,r,_=>by simp[eD,ids]
 |(j,s)::l,i,r,h=>by
  have hc:=List.nodup_cons.1 h;unfold eD;split
  ·rename_i e;subst e;exact h
  ·rename_i e;refine List.nodup_cons.2 ⟨fun hm=>?_,EY l i r hc.2⟩;rcases(GG l i j r).1 hm with h1|h1
   ·exact e h1.symm
   ·exact hc.1 h1
variable{i:Nat}
def ki.put{e:PV}{r:Row}(h:ki lo e)(hi:i<lo\/1000<=i)(hr:aU (fun j=>decide (j=i) || (ids e).contains j) r.cells=true):ki lo (eD e i r):=by
 have hm:∀j,(decide (j=i) || (ids e).contains j)=true->(ids (eD e i r)).contains j=true:=fun j hj=>by
  rw[List.contains_iff_mem,GG];rcases Bool.or_eq_true _ _ ▸ hj with h1|h1
  ·exact .inl (of_decide_eq_true h1)
  ·exact .inr (List.contains_iff_mem.1 h1)
 refine⟨fun j h1 h2=>?_,EY _ _ _ h.nodup,fun j s hs=>?_⟩
 ·rw[nD,jN];exact h.no j h1 h2
 ·rw[nD]at hs;split at hs
  ·cases hs;exact iN hm _ hr
  ·exact iN (fun k hk=>hm k (by rw[Bool.or_eq_true];exact .inr hk)) _ (h.closed j s hs)
structure Up(X:List Nat)(e l:List (Nat×Row)):Prop where
 bS:∀i,aB e i≠none->aB l i≠none
 new:∀i,aB l i≠none->aB e i≠none\/i ∉ X
def Up.refl(X:PZ)(e:PV):Up X e e:=⟨fun _ h=>h,fun _ h=>.inl h⟩
def Up.trans{X:PZ}{a b c:PV}(h:Up X a b)(k:Up X b c):Up X a c:=⟨fun i hi=>k.bS i (h.bS i hi),fun i hi=>(k.new i hi).elim (h.new i) .inr⟩
def Up.put{X:PZ}{e:PV}(r:Row)(h:aB e i≠none\/i ∉ X):Up X e (eD e i r):=⟨fun j hj=>by
 rw[nD];split
 ·simp
 ·exact hj,fun j hj=>by
 rw[nD]at hj;split at hj
 ·rename_i e';subst e';exact h
 ·exact .inl hj⟩
def af.more{args:PW}{s e:PV}{R:AV->List P8->Prop}(hc:af P f args s R)(hs:∀i r,aB s i=some r->aB e i=some r)(ha:aU (fun i=>(ids s).contains i) args=true)(Qi:∀i r,aB s i=some r->aU (fun i=>(ids s).contains i) r.cells=true)
  (hn:∀r l,R r l->(ids l).Nodup/\∀i,aB l i≠none->aB s i≠none\/aB e i=none):af P f args e fun r l=>∃l0,R r l0/\l=jm e l0:=fun w vs hw hv=>by
 refine(vt (H:=entry e) (K:=fun r H'=>∃l0,R r l0/\H'=⟨ids e,jm e l0⟩) hc (fun i r hi=>hs i r hi) ha Qi (fun r l' hR=>⟨fun i x hx=>?_,(hn r l' hR).1,l',hR,rfl⟩) hw hv).mono ?_
 ·rcases(hn r l' hR).2 i (by rw[hx];simp)with h|h
  ·obtain⟨y,hy⟩:=Option.ne_none_iff_exists'.1 h;exact .inl (tT hy)
  ·exact .inr h
 ·rintro e' W ⟨v,r,H',w',rfl,rfl,⟨l0,hR,rfl⟩,g1,g2,g3⟩;exact⟨v,r,_,w',rfl,rfl,⟨l0,hR,rfl⟩,g1,g2,g3.pm⟩
def tie(e tl:PV):PV:=e++tl
def OQ(e:PV):e=tie e []:=(List.append_nil e).symm
@[go_sem] def zv(e tl:PV)(i:Nat):aB (tie e tl) i=(aB e i).or (aB tl i):=jc _ _ _
theorem BS:∀(e tl:PV) (i:Nat) (r:Row),eD (e++tl) i r=if(aB e i).isSome=true then eD e i r++tl else e++eD tl i r
 |[],tl,i,r=>by simp[aB,eD]
 |(j,s)::e,tl,i,r=>by
  show(if i=j then(i,r)::(e++tl)else(j,s)::eD (e++tl) i r)=if((if i=j then some s else aB e i):Option Row).isSome=true then(if i=j then(i,r)::e else(j,s)::eD e i r)++tl else(j,s)::(e++eD tl i r)
  by_cases h:i=j
  ·subst h;simp
  ·simp only[if_neg h];rw[BS e tl i r];split<;>rfl
@[go_sem] def j4A(e tl:PV)(i:Nat)(r:Row):eD (tie e tl) i r=if(aB e i).isSome=true then tie (eD e i r) tl else tie e (eD tl i r):=BS _ _ _ _
attribute [go_sem] Option.some_or Option.none_or Option.isSome_some Option.isSome_none
def ki.low{e:PV}(h:ki 0 e):∀i,i<1000->aB e i=none:=fun i hi=>h.no i (Nat.zero_le _) hi
def pK:oF 0 []:=fun i r h=>by cases h
def qR{T:PV}{r:Row}(h:i<1000)(hT:oF 0 T):oF 0 ((i,r)::T):=fun j s hs=>by
 simp only[aB]at hs;split at hs
 ·omega
 ·exact hT j s hs
structure nJ(P:Program)(f:FuncId)(args:List AV)(e:List (Nat×Row))(r0:AV)(l:List (Nat×Row)):Prop where
 c:af P f args e fun r l'=>r=r0/\l'=l
 e1:ki 0 e
 e2:ki 0 l
 bS:∀i,aB e i≠none->aB l i≠none
 a:aU (fun i=>(ids e).contains i) args=true
variable{l:PV}
def cT{args:PW}{e:PV}{q:Prop}(hd:nJ P f args e r0 l)(k:q)(h0:aQ P f=true:=by exact dj)(hl:oF 0 tl:=by(repeat' first|exact pK|(refine qR (by decide) ?_)|fail))(e0:K r0 ⟨B,tie l tl⟩=q:=by exact ey):dp P (.raw (.func (.func f) #[] #[])) args ⟨B,tie e tl⟩ K:=
 cG hd.c rfl hd.e1 hd.e2 hd.bS hl hd.a h0 (e0 ▸ k)
@[go_sem] def PI(a k:Nat):gI 0 (hn a k)=false:=decide_eq_false (by have:=xV a k;omega)
variable{L:PV}
def tZ{fn:Func}{F:PW}{out:PW}{ex:Exit}{e:PV}(hB:ids e=B)(k1:ki 0 e)(k2:ki 0 l)(hp:∀i,aB L i=aB (tie l tl) i)(hl:oF 0 tl)(rs:List ResultVar)
  (hr:r0.all (df (gI 0))=true:=by first|rfl|(simp only[go_sem,AV.all,aU,df,PI];done))
  (RB:fn.results.toList=rs:=by rfl) (he:ex=.normal\/ex=.ret:=by first|exact Or.inr rfl|exact Or.inl rfl|fail) (ho:fP P ⟨B,L⟩ F rs=some out:=by first|rfl|(simp(disch:=first|omega|fail) only[go_sem,↓reduceIte,Nat.reduceEqDiff,Nat.reduceLeDiff,Nat.reduceSub,Nat.reduceAdd];rfl)) (hok:gx P ⟨B,L⟩ F rs:=by first|exact jI|(simp(disch:=first|omega|fail) only[go_sem,↓reduceIte,Nat.reduceEqDiff,Nat.reduceLeDiff,Nat.reduceSub,Nat.reduceAdd])) (hv:fZ out=r0:=by first|rfl|(simp only[go_sem];done)):hU P fn (fun r l'=>r=r0/\l'=l) ex F ⟨B,L⟩:=by
 subst RB;obtain⟨h1,h2,h3⟩:=k1.free k2 hB hl;have:=hJ.free (r:=fZ out) (r':=r0) (H:=⟨B,l++tl⟩) (Go.Gd.gI 0) h1 h2 (p5 hv (hv ▸ hr));rw[show(Hp.mk B (l++tl)).l=l++tl from rfl,h3]at this;exact rk he ho hok r0 ⟨B,l⟩ ((Bi (B:=B) (l:=L) (l++tl) hp).trans this) ⟨rfl,rfl⟩
section
variable {P:P6}{f:FuncId}{args:PW}{B:PZ}{e tl:PV}{r0:AV}{q:Prop}
def vJ{c:Code}{Q:Exit->PS}{F:PW}(h:cz P c Q F ⟨B,tie e []⟩):cz P c Q F ⟨B,e⟩:=by rw[OQ e];exact h
def vD{R:AV->Prop}(hd:nJ P f args e r0 e)(k:q)(h0:aQ P f=true:=by exact dj)(hl:oF 0 tl:=by(repeat' first|exact pK|(refine qR (by decide) ?_)|fail))(e0:R r0=q:=by exact ey) :
  ∃r,(dp P (.raw (.func (.func f) #[] #[])) args ⟨B,tie e tl⟩ fun r' H'=>r'=r/\H'=⟨B,tie e tl⟩)/\R r:=
 ⟨r0,cG (K:=fun r' H'=>r'=r0/\H'=⟨B,tie e tl⟩) hd.c rfl hd.e1 hd.e2 hd.bS hl hd.a h0 ⟨rfl,rfl⟩,e0 ▸ k⟩
end
theorem af.args{P:P6}{f:FuncId}{args args':PW}{l:PV}{R:AV->List P8->Prop}(hc:af P f args' l R)(hv:∀w vs,aN w (entry l)->bU w args vs->bU w args' vs):af P f args l R:=fun w vs h1 h2=>hc w vs h1 (hv w vs h1 h2)
@[go_sem] def j4u(a k:Nat):hn a k+16=hn (a+16) k:=by unfold hn;omega
section
variable {σ:Type}(tm:σ->Int)(st:σ->σ)(t:Int)
def qL:Nat->σ->σ
 |0,s=>s
 |n+1,s=>if tm s=t then s else if tm (st s)=tm s then st s else qL n (st s)
end
section
variable {σ:Type}{tm:σ->Int}{st:σ->σ}{se:σ->P0->ai->Option σ}{E:List ba}{I:σ->Prop}{t:Int}
variable{n k:Nat}{s:σ}{b:Bool}
def pE(h:b=true\/E.length<=k):bV tm se E n s k b=(s,k,b):=by
 cases n with
 |zero=>rfl
 |succ n=>
  unfold bV;rw[if_neg];rintro⟨a,c,_⟩;rcases h with h|h
  ·rw[a]at h;cases h
  ·omega
def yM(h:k<E.length->(nth E k).at_≠tm s):bV tm se E n s k b=(s,k,b):=by
 cases n with
 |zero=>rfl
 |succ n=> unfold bV;rw[if_neg];rintro⟨a,c,d⟩;exact h c d
def yS(h:k<E.length)(ha:(nth E k).at_=tm s)(e:se s (nth E k).name (nth E k).v=none):bV tm se E (n+1) s k false=(s,k,true):=by unfold bV;rw[if_pos ⟨rfl,h,ha⟩,e]
def wB{s':σ}(h:k<E.length)(ha:(nth E k).at_=tm s)(e:se s (nth E k).name (nth E k).v=some s'):bV tm se E (n+1) s k false=bV tm se E n s' (k+1) false:=by
 conv=>lhs;unfold bV
 rw[if_pos ⟨rfl,h,ha⟩,e]
theorem BJ:∀(n m:Nat) (s:σ) (k:Nat) (b:Bool),E.length<n+k->E.length<m+k->bV tm se E n s k b=bV tm se E m s k b
 |0,m,s,k,b,h1,_=>by rw[pE (n:=0) (.inr (by omega)),pE (.inr (by omega))]
 |n,0,s,k,b,_,h2=>by rw[pE (n:=0) (.inr jB),pE (.inr jB)]
 |n+1,m+1,s,k,b,h1,h2=>by
  unfold bV;split
  ·split
   ·exact BJ n m _ (k+1) false jB jB
   ·rfl
  ·rfl
theorem yF:∀{n:Nat} {s:σ} {k:Nat} {b:Bool},(b=true\/E.length<=k)->dD tm st se E t n s k b=(qL tm st t n s,k,b)
 |0,s,k,b,_=>rfl
 |n+1,s,k,b,h=>by
  unfold dD qL;rw[pE h];simp only;split
  ·rfl
  split
  ·rfl
  ·exact yF h
def ya{s1:σ}{k1:Nat}{b1:Bool}(e:bV tm se E (E.length+1) s k b=(s1,k1,b1))(h:b1=true\/E.length<=k1):dD tm st se E t (n+1) s k b=(qL tm st t (n+1) s1,k1,b1):=by
 unfold dD qL;rw[e];simp only;split
 ·rfl
 split
 ·rfl
 ·exact yF h
def Fm(h:k<E.length->(nth E k).at_≠tm s):dD tm st se E t (n+1) s k b=if tm s=t then(s,k,b)else if tm (st s)=tm s then(st s,k,b)else dD tm st se E t n (st s) k b:=by
 conv=>lhs;unfold dD
 rw[yM h]
def sJ{r:σ×Nat×Bool}:kg E t r=0<->¬(r.2.1<E.length/\(nth E r.2.1).at_<=t):=by
 unfold kg;split
 ·rename_i h;exact⟨fun e=>jB,fun e=>(e h).elim⟩
 ·rename_i h;exact⟨fun _=>h,fun _=>rfl⟩
theorem Ex{x y:ba}(hk:jj tm st se [x] I)(ha:y.at_=x.at_)(Rp:∀s u,I s->se s y.name y.v=some u->tm u=tm s/\se u x.name x.v=se s x.name x.v)(ht:t<=200):∀(n:Nat) (s:σ),I s->tm s<=t->
  kg [x] t (dD tm st se [x] t n s 0 false)=0->(kg [y,x] t (dD tm st se [y,x] t n s 0 false)=0\/∀s u,I s->se s x.name x.v=some u->∃v,se s y.name y.v=some v)->(dD tm st se [x] t n s 0 false).1=(dD tm st se [y,x] t n s 0 false).1/\kg [y,x] t (dD tm st se [y,x] t n s 0 false)=0
 |0,s,hs,h1,h2,h3=>by refine⟨rfl,?_⟩;rw[sJ]at h2 ⊢;intro⟨_,h⟩;refine h2 ⟨by show 0<1;decide,?_⟩;show x.at_<=t;have h:y.at_<=t:=h;omega
 |n+1,s,hs,h1,h2,h3=>by
  by_cases hx:x.at_=tm s
  ·cases e:se s x.name x.v with
   |none=> have e1:bV tm se [x] 2 s 0 false=(s,0,true):=yS (E:=[x]) (k:=0) jE hx e;rw[ya e1 (.inl rfl),sJ]at h2;exact(h2 ⟨by show 0<1;decide,by show x.at_<=t;omega⟩).elim
   |some s'=>
    have e1:bV tm se [x] 2 s 0 false=(s',1,false):=(wB (E:=[x]) (k:=0) jE hx e).trans (pE (.inr (Nat.le_refl 1)));cases f:se s y.name y.v with
    |none=>
     exfalso;have e2:bV tm se [y,x] 3 s 0 false=(s,0,true):=yS (E:=[y,x]) (k:=0) jE (show y.at_=tm s from jB) f;rcases h3 with h3|h3
     ·rw[ya e2 (.inl rfl),sJ]at h3;exact h3 ⟨by show 0<2;decide,by show y.at_<=t;omega⟩
     ·obtain⟨v,hv⟩:=h3 s s' hs e;rw[f]at hv;cases hv
    |some u=> obtain⟨g1,g2⟩:=Rp s u hs f;have e2:bV tm se [y,x] 3 s 0 false=(s',2,false):=(wB (E:=[y,x]) (k:=0) jE (show y.at_=tm s from jB) f).trans ((wB (E:=[y,x]) (k:=1) jE (show x.at_=tm u from jB) (g2.trans e)).trans (pE (.inr (Nat.le_refl 2))));rw[ya e1 (.inr (Nat.le_refl 1)),ya e2 (.inr (Nat.le_refl 2))];refine⟨rfl,?_⟩;rw[sJ];intro⟨h,_⟩;exact absurd h (Nat.lt_irrefl 2)
  ·have n1:0 < [x].length->(nth [x] 0).at_≠tm s:=fun _=>hx
   have n2:0 < [y,x].length->(nth [y,x] 0).at_≠tm s:=fun _=>by show y.at_≠tm s;omega
   rw[Fm n1]at h2 ⊢;rw[Fm n2]at h3 ⊢;by_cases a:tm s=t
   ·rw[if_pos a]at h2 h3 ⊢;rw[if_pos a];refine⟨rfl,?_⟩;rw[sJ]at h2 ⊢;intro⟨_,h⟩;refine h2 ⟨by show 0<1;decide,?_⟩;show x.at_<=t;have h:y.at_<=t:=h;omega
   ·rw[if_neg a]at h2 h3 ⊢;rw[if_neg a];by_cases b:tm (st s)=tm s
    ·rw[if_pos b]at h2 h3 ⊢;rw[if_pos b];refine⟨rfl,?_⟩;rw[sJ]at h2 ⊢;intro⟨_,h⟩;refine h2 ⟨by show 0<1;decide,?_⟩;show x.at_<=t;have h:y.at_<=t:=h;omega
    ·rw[if_neg b]at h2 h3 ⊢;rw[if_neg b];obtain⟨c1,c2⟩:=hk.st s hs jB;exact Ex hk ha Rp ht n (st s) c1 jB h2 h3
theorem FN{K:Nat}(hk:jj tm st se E I)(hK:∀k,K<=k->k<E.length->t<(nth E k).at_):∀(n:Nat) (s:σ) (k:Nat) (b:Bool),I s->tm s<=t->k<=K->(bV tm se E n s k b).2.1<=K
 |0,s,k,b,hs,h1,h2=>h2
 |n+1,s,k,b,hs,h1,h2=>by
  unfold bV;split
  ·rename_i hc;have Qd:k<K:=by
    apply Classical.byContradiction;intro h;have:=hK k jB hc.2.1;have:=hc.2.2;omega
   split
   ·rename_i s' e;obtain⟨a1,a2⟩:=hk.se s k s' hs hc.2.1 e;exact FN hk hK n s' (k+1) false a1 jB jB
   ·exact h2
  ·exact h2
theorem BP{K:Nat}(hk:jj tm st se E I)(ht:t<=200)(hK:∀k,K<=k->k<E.length->t<(nth E k).at_):∀(n:Nat) (s:σ) (k:Nat) (b:Bool),I s->tm s<=t->k<=K->(dD tm st se E t n s k b).2.1<=K
 |0,s,k,b,hs,h1,h2=>h2
 |n+1,s,k,b,hs,h1,h2=>by
  have h3:=FN hk hK (E.length+1) s k b hs h1 h2;obtain⟨a1,a2,_⟩:=rK hk (E.length+1) s k b hs;unfold dD;split
  ·exact h3
  rename_i QD;obtain⟨c1,c2⟩:=hk.st _ a1 jB;split
  ·exact h3
  ·exact BP hk ht hK n _ _ _ c1 jB h3
end
def vP:List ba->Prop
 |[]=>True
 |x::l=>(∀y,l.head?=some y->x.at_<=y.at_)/\vP l
def gz(E:List ba)(t:Int):List ba:=E.filter fun x=>decide (x.at_<=t)
theorem FQ{t:Int}:∀(l:List ba) (x:ba),vP (x::l)->t<x.at_->gz l t=[]/\∀k,k<l.length->t<(nth l k).at_
 |[],x,_,_=>⟨rfl,fun k hk=>by simp at hk⟩
 |y::l,x,h,hx=>by
  have hy:t<y.at_:=by have:=h.1 y rfl;omega
  obtain⟨a,b⟩:=FQ l y h.2 hy;refine⟨?_,fun k hk=>?_⟩
  ·unfold gz at a ⊢;rw[List.filter_cons_of_neg jF,a]
  ·cases k with
   |zero=>exact hy
   |succ k=>exact b k (by simpa using hk)
theorem Gl{t:Int}:∀(E:List ba),vP E->∃K,K<=E.length/\gz E t=E.take K/\∀k,K<=k->k<E.length->t<(nth E k).at_
 |[],_=>⟨0,Nat.le_refl _,rfl,fun k _ hk=>by simp at hk⟩
 |x::l,h=>by
  by_cases c:x.at_<=t
  ·obtain⟨K,h1,h2,h3⟩:=Gl l h.2;refine⟨K+1,by simp;omega,?_,fun k hk hl=>?_⟩
   ·unfold gz at h2 ⊢;rw[List.filter_cons_of_pos (by simpa using c),h2];rfl
   ·cases k with
    |zero=>omega
    |succ k=>exact h3 k jB (by simpa using hl)
  ·obtain⟨a,b⟩:=FQ (t:=t) l x h jB;refine⟨0,Nat.zero_le _,?_,fun k _ hk=>?_⟩
   ·unfold gz at a ⊢;rw[List.filter_cons_of_neg (by simpa using c),a];rfl
   ·cases k with
    |zero=>show t<x.at_;omega
    |succ k=>exact b k (by simpa using hk)
theorem FA{σ:Type}{tm:σ->Int}{st:σ->σ}{se:σ->P0->ai->Option σ}{E:List ba}{I:σ->Prop}{t:Int}(hk:jj tm st se E I)(ht:t<200)(Qe:∀k,k<E.length->(nth E k).at_≠t+1):∀(n:Nat) (s:σ) (k:Nat) (b:Bool),I s->tm s<=t->t-tm s<n->
  (tm (dD tm st se E t n s k b).1<t->(dD tm st se E (t+1) (n+1) s k b).1=(dD tm st se E t n s k b).1)/\(¬tm (dD tm st se E t n s k b).1<t->(dD tm st se E (t+1) (n+1) s k b).1=st (dD tm st se E t n s k b).1)
 |0,s,k,b,_,h1,h2=>by omega
 |n+1,s,k,b,hs,h1,h2=>by
  obtain⟨a1,a2,_⟩:=rK hk (E.length+1) s k b hs;have e1:dD tm st se E t (n+1) s k b=if tm (bV tm se E (E.length+1) s k b).1=t then bV tm se E (E.length+1) s k b else if tm (st (bV tm se E (E.length+1) s k b).1)=tm (bV tm se E (E.length+1) s k b).1 then(st (bV tm se E (E.length+1) s k b).1,(bV tm se E (E.length+1) s k b).2)else dD tm st se E t n (st (bV tm se E (E.length+1) s k b).1) (bV tm se E (E.length+1) s k b).2.1 (bV tm se E (E.length+1) s k b).2.2:=rfl
  have e2:dD tm st se E (t+1) (n+1+1) s k b=if tm (bV tm se E (E.length+1) s k b).1=t+1 then bV tm se E (E.length+1) s k b else if tm (st (bV tm se E (E.length+1) s k b).1)=tm (bV tm se E (E.length+1) s k b).1 then(st (bV tm se E (E.length+1) s k b).1,(bV tm se E (E.length+1) s k b).2)else dD tm st se E (t+1) (n+1) (st (bV tm se E (E.length+1) s k b).1) (bV tm se E (E.length+1) s k b).2.1 (bV tm se E (E.length+1) s k b).2.2:=rfl
  rw[e1,e2];generalize bV tm se E (E.length+1) s k b=Q at*;obtain⟨c1,c2⟩:=hk.st _ a1 jB;rw[if_neg (show¬tm Q.1=t+1 from jB)];by_cases c:tm Q.1=t
  ·rw[if_pos c];refine⟨fun h=>jB,fun _=>?_⟩;by_cases d:tm (st Q.1)=tm Q.1
   ·rw[if_pos d]
   ·rw[if_neg d];unfold dD;rw[yM (fun hl e=>Qe _ hl jB),if_pos (by show tm (st Q.1)=t+1;omega)]
  ·rw[if_neg c];by_cases d:tm (st Q.1)=tm Q.1
   ·rw[if_pos d,if_pos d];exact⟨fun _=>rfl,fun h=>(h (by show tm (st Q.1)<t;omega)).elim⟩
   ·rw[if_neg d,if_neg d];exact FA hk ht Qe n _ Q.2.1 Q.2.2 c1 jB jB
def Mc{args:PW}{e:PV}(hd:nJ P f args e r0 l)(hp:∀i,aB L i=aB (tie e tl) i)(k:K r0 ⟨B,tie l tl⟩)(hl:oF 0 tl:=by(repeat' first|exact pK|(refine qR (by decide) ?_)|fail))(h0:aQ P f=true:=by exact dj):dp P (.raw (.func (.func f) #[] #[])) args ⟨B,L⟩ K:=by
 refine ko h0 (FZ hp (tJ (E:=fun tl=>e++tl) (E':=fun tl=>l++tl) ?_ (hd.e1.iJ hl) (hd.e2.iJ hl) ?_ ?_ ?_ k ?_))
 ·simp only[List.append_nil];exact hd.c
 ·simp only[List.append_nil];exact hd.e2.nodup
 ·simp only[List.append_nil];exact hd.a
 ·simp only[List.append_nil];exact hd.e1.closed
 ·simp only[List.append_nil];exact hd.bS
def jK(s:P0):P0:=if 700<s.size then s.extract 0 700 else s
def uy(s:P0):(jK s).size<=1000000:=by
 unfold jK;split
 ·rw[ByteArray.size_extract];omega
 ·omega
def fG(l:PY):PY:=l.take 20
def u7(l:PY):(fG l).length<=20:=by unfold fG;simp;omega
def ur{l:PY}(h:∀x∈l,bn x):∀x∈fG l,bn x:=fun x hx=>h x (List.mem_of_mem_take hx)
def ni(x:ba):ba:={ x with name:=if 20<x.name.size then x.name.extract 0 20 else x.name,v:={ x.v with s:=if 60<x.v.s.size then x.v.s.extract 0 60 else x.v.s } }
def kz(l:List ba):List ba:=(l.take 10).map ni
def xt(l:List ba):(kz l).length<=10:=by unfold kz;simp;omega
def xa{l:List ba}(h:∀x∈l,bn x.v.n):∀k,k<(kz l).length->bn (nth (kz l) k).v.n:=fun k hk=>by obtain⟨y,hy,e⟩:=List.mem_map.1 (show nth (kz l) k∈(l.take 10).map ni from dZ hk);rw[<-e];exact h y (List.mem_of_mem_take hy)
end Go.Gd
namespace Go.Proofs.YtghoellpinmenaaGreatDoor
open Go Go.Gd Tryz
theorem CB:∀(l:List bM) (i:Int) (x:bM),iT (l++[x]) i=iT l i++[⟨x.name,x.ty,i+l.length⟩]
 |[],i,x=>by simp[iT]
 |y::l,i,x=>by
  have:=CB l (i+1) x;simp only[List.cons_append,iT,this,List.length_cons];congr 3
  simp only[bH.mk.injEq,true_and];omega
theorem vR:∀(l:List bM) (i:Int),(iT l i).length=l.length
 |[],i=>rfl
 |y::l,i=>by simp only[iT,List.length_cons,vR l (i+1)]
variable{p:ae}
def wS(h:iY p)(b:Int):(aJ p b).l.length<=300:=by
 have hm:=h.aa.many;by_cases hb:b.toNat<p.aa.nodes.length
 ·obtain⟨lo,hc⟩:=(h.aa.shape b.toNat hb).2.2;have:=Dy hc;show(nth p.aa.nodes b.toNat).l.length<=300;omega
 ·unfold aJ nth;rw[List.getD_eq_getElem?_getD,List.getElem?_eq_none jB];exact Nat.zero_le _
structure Fw(c c':Ck):Prop where
 fn:c'.fn=c.fn
 av:∀x∈c'.av,x∈c.av\/x=c.fn
def Fw.refl(c:Ck):Fw c c:=⟨rfl,fun _ h=>.inl h⟩
theorem Fw.trans{a b c:Ck}(h:Fw a b)(k:Fw b c):Fw a c:=⟨k.fn.trans h.fn,fun x hx=>by
 rcases k.av x hx with e|e
 ·exact h.av x e
 ·right;rw[e,h.fn]⟩
def tC{c c':Ck}(h1:c'.fn=c.fn)(h2:c'.av=c.av):Fw c c':=⟨h1,fun x hx=>by rw[h2]at hx;exact .inl hx⟩
def Eo{l:PY}{i:Nat}{x y:Int}(h:x∈l.set i y):x∈l\/x=y:=by
 rcases List.mem_or_eq_of_mem_set h with h|h
 ·exact .inl h
 ·exact .inr h
def oc(c:Ck)(e a:Int):Fw c (c.aD e a):=by unfold Ck.aD;split<;>exact tC rfl rfl
def mS(c:Ck)(b:Bool)(a:Int):Fw c (c.ar b a):=by unfold Ck.ar;split;exact .refl _;exact oc _ _ _
def yf(c:Ck)(a:Int):Fw c (c.named a).1:=by unfold Ck.named;split;exact oc _ _ _;exact tC rfl rfl
def Iq(c:Ck)(a t:Int):Fw c (c.note a t):=⟨rfl,fun _ h=>Eo h⟩
def Gb(c:Ck)(a:Int):Fw c (c.aj a):=⟨rfl,fun _ h=>Eo h⟩
def rf{c x y:Ck}{q:Prop}[Decidable q](h:Fw c x)(k:Fw c y):Fw c (if q then x else y):=by split;exact h;exact k
theorem Dz{ex:Ck->Int->Ck×Int}(hx:∀c a,Fw c (ex c a).1):∀(L:PY) (c:Ck) (ts:PY),Fw c (fR ex c L ts).1
 |[],c,ts=>by unfold fR;exact .refl c
 |a::L,c,ts=>by
  unfold fR;split
  ·exact(hx c a).trans (Dz hx L _ _)
  ·exact .refl c
theorem Cw(a:Int):∀(ts:PY) (ps:List bM) (c:Ck),Fw c (gH a c ts ps)
 |[],ps,c=>by rw[r7];exact .refl c
 |_::_,[],c=>by rw[ua];exact .refl c
 |x::ts,p::ps,c=>by
  unfold gH;split
  ·exact(mS _ _ _).trans (Cw a ts ps _)
  ·exact .refl c
variable{ex:Ck->Int->Ck×Int}
def M4(hx:∀c a,Fw c (ex c a).1)(c:Ck)(a:Int):Fw c (iv ex c a).1:=by
 unfold iv;split
 ·exact oc _ _ _
 ·simp only;exact((Dz hx _ c _).trans (rf (oc _ _ _) (.refl _))).trans (Cw _ _ _ _)
def Md(hx:∀c a,Fw c (ex c a).1)(c:Ck)(a:Int):Fw c (bW ex c a).1:=by
 unfold bW;simp only;split
 ·exact .refl c
 split
 ·exact .refl c
 split
 ·exact .refl c
 split
 ·exact yf _ _
 split
 ·exact M4 hx c a
 split
 ·exact((yf _ _).trans (hx _ _)).trans (mS _ _ _)
 split
 ·exact((hx _ _).trans (hx _ _)).trans (mS _ _ _)
 split
 ·exact(hx _ _).trans (mS _ _ _)
 split
 ·exact(hx _ _).trans (mS _ _ _)
 split
 ·exact(hx _ _).trans (mS _ _ _)
 ·exact(hx _ _).trans (mS _ _ _)
theorem pz:∀(n:Nat) (c:Ck) (a:Int),Fw c (ay n c a).1
 |0,c,a=>by unfold ay;exact .refl c
 |n+1,c,a=>by
  unfold ay;split
  ·exact .refl c
  ·exact(Md (pz n) c a).trans (Iq _ _ _)
def MS(hx:∀c a,Fw c (ex c a).1)(c:Ck)(a:Int):Fw c (nC ex c a):=by have hA:Fw c (gO ex c a):=(hx c _).trans (mS _ _ _);have hB:Fw (gO ex c a) (iV ex c a):=rf (oc _ _ _) (.refl _);have hC:Fw (iV ex c a) (ee ex c a):=rf (oc _ _ _) (.refl _);rw[sC];exact((hA.trans hB).trans hC).trans (tC rfl rfl)
def Iw(hx:∀c a,Fw c (ex c a).1)(c:Ck)(a:Int):Fw c (jS ex c a):=by
 unfold jS;simp only;split
 ·exact oc _ _ _
 split
 ·exact(hx _ _).trans (mS _ _ _)
 ·exact .refl c
theorem Bh{st:Ck->Int->Ck}(hs:∀c a,Fw c (st c a)):∀(L:PY) (c:Ck),Fw c (dN st c L)
 |[],c=>by unfold dN;exact .refl c
 |a::L,c=>by
  unfold dN;split
  ·exact(hs c a).trans (Bh hs L _)
  ·exact .refl c
def DD{st:Ck->Int->Ck}(hs:∀c a,Fw c (st c a))(c:Ck)(a:Int):Fw c (eE st c a):=by unfold eE;simp only;exact((Gb c a).trans (Bh hs _ _)).trans (tC rfl rfl)
theorem BW:∀(n:Nat) (c:Ck) (a:Int),Fw c (bP n c a)
 |0,c,a=>by unfold bP;exact .refl c
 |n+1,c,a=>by
  unfold bP;simp only;refine(Gb c a).trans ?_;split
  ·exact MS (pz n) _ _
  split
  ·exact((yf _ _).trans (pz n _ _)).trans (mS _ _ _)
  split
  ·exact(((yf _ _).trans (pz n _ _)).trans (pz n _ _)).trans (mS _ _ _)
  split
  ·exact pz n _ _
  split
  ·exact(pz n _ _).trans (mS _ _ _)
  split
  ·exact Iw (pz n) _ _
  ·exact((pz n _ _).trans (mS _ _ _)).trans (Bh (fun c a=>DD (BW n) c a) _ _)
theorem Dn(body:Int):∀(ps:List bM) (c:Ck) (i:Int),Fw c (eP body c ps i)
 |[],c,i=>by unfold eP;exact .refl c
 |p::ps,c,i=>by unfold eP;simp only;have h1:Fw c (if 0<=c.find p.name then c.aD 41 body else c):=rf (oc c 41 body) (.refl c);generalize (if 0<=c.find p.name then c.aD 41 body else c)=d at*;refine h1.trans ?_;exact Fw.trans (b:={ d with vars:=d.vars++[⟨p.name,p.ty,i⟩],more:=d.more.drop 1,size:=d.size+1 }) (tC rfl rfl) (Dn body ps _ _)
def Mp(c:Ck)(k:Nat):∀x∈(fY c k).av,x∈c.av\/x=(k:Int):=by
 have h:Fw { c with fn:=(k:Int),vars:=[],more:=[],size:=0 } (fY c k):=by unfold fY;simp only;exact((Dn _ _ _ _).trans (rf (DD (BW _) _ _) (.refl _))).trans (tC rfl rfl)
 exact fun x hx=>h.av x hx
theorem Di:∀(n i:Nat) (c:Ck),∀x∈(fX c i n).av,x∈c.av\/((i:Int)<=x/\x<(i:Int)+n)
 |0,i,c,x,hx=>by unfold fX at hx;exact .inl hx
 |n+1,i,c,x,hx=>by
  unfold fX at hx;split at hx
  ·rcases Di n (i+1) _ x hx with h|h
   ·rcases Mp c i x h with h|h
    ·exact .inl h
    ·right;omega
   ·right;omega
  ·exact .inl hx
theorem Gm(x:bg):∀(l:List bg) (c:Ck),Fw c (kG x c l)
 |[],c=>by unfold kG;exact .refl c
 |f::l,c=>by unfold kG;exact(rf (oc _ _ _) (.refl _):Fw c (if f.name=x.name then c.aD 41 x.body else c)).trans (Gm x l _)
theorem A6(av:List bg):∀(n i:Nat) (c:Ck) (m:Bool),Fw c (jO av c m i n).1
 |0,i,c,m=>by unfold jO;exact .refl c
 |n+1,i,c,m=>by unfold jO;exact(Gm _ _ c).trans (A6 av n (i+1) _ _)
def MQ(c:Ck):Fw c (iB c):=by unfold iB;simp only;exact rf (A6 _ _ _ _ _) ((A6 _ _ _ _ _).trans (oc _ _ _))
def Om{t:aE}(ht:aX t)(he:(gC t).2.2=0)(h1:0<t.av.length):∀x∈(gC t).1.fn,0<=x/\x<t.av.length:=fun x hx=>by
 unfold gC at he hx;split at he
 ·rename_i h;exact(h he).elim
 rename_i h;rw[if_neg h]at hx;have hx:x∈(fX (iB (iQ t)) 0 t.av.length).av:=hx;rcases Di t.av.length 0 _ x hx with g|g
 ·rcases(MQ (iQ t)).av x g with g|g
  ·have g:x∈t.nodes.map fun _=>(0:Int):=g
   obtain⟨_,_,rfl⟩:=List.mem_map.1 g;omega
  ·have g:x=0:=g;omega
 ·omega
def Kc{s:P0}(he:(fJ s).2.2=0):∀k,k<(fJ s).1.aa.nodes.length->0<=nth (fJ s).1.fn k/\nth (fJ s).1.fn k<(fJ s).1.aa.av.length:=by
 have hok:=Mw he;obtain⟨j,hj,_⟩:=(CA he).names.main;unfold fJ at he hok hj ⊢;split at he
 ·rename_i h;exact(h he).elim
 rename_i h;rw[if_neg h]at hok hj ⊢;have h:(fO s).2.2=0:=jB;simp only at he hok hj ⊢;split at he
 ·cases he
 rename_i h2;split at he
 ·rename_i h3;exact(h3 he).elim
 rename_i h3;rw[if_neg h2,if_neg h3]at hok hj ⊢;have ht:=(AE (vM h) jB).2;simp only at hok hj ⊢;rw[ht]at hj ⊢;exact fun k hk=>Om (vM h) jB jB _ (dZ (by rw[hok.fn,ht];exact hk))
theorem zx{p:ae}{node:Int}{n:Nat}{T B:Nat}(hw:∀b s,0<=b->b.toNat<B->bJ p.aa.nodes b=18->jx s<=1000000->s.1.length<=T->jx (gY p node n b s).2<=1000000):∀(l:PY) (s:VS),(∀b∈l,0<=b/\b.toNat<B/\bJ p.aa.nodes b=18)->jx s<=1000000->s.1.length<=T->jx (iU (gY p node n) l s).2<=1000000/\((iU (gY p node n) l s).1=false->(iU (gY p node n) l s).2.1=s.1)
 |[],s,_,h,_=>⟨h,fun _=>rfl⟩
 |b::l,s,hl,h,h1=>by
  obtain⟨b0,b1,b2⟩:=hl b jE;have hb:=hw b s b0 b1 b2 h h1;rw[Cl];by_cases e:(gY p node n b s).1=true
  ·rw[if_pos e];exact⟨hb,fun h=>by cases h⟩
  ·rw[if_neg e];have e1:=C0 (Bool.not_eq_true _ ▸ e);have:=zx hw l (gY p node n b s).2 (fun b hb=>hl b (by simp[hb])) hb (by rw[e1];exact h1);exact⟨this.1,fun h=>(this.2 h).trans e1⟩
theorem zX{p:ae}(h:iY p)(node:Int):∀(n:Nat) (b:Int) (s:VS),0<=b->b.toNat<p.aa.nodes.length->bJ p.aa.nodes b=18->jx s<=1000000->s.1.length+300*b.toNat<=900000->jx (gY p node n b s).2<=1000000
 |0,b,s,_,_,_,ht,_=>ht
 |n+1,b,s,h0,hl,hk,ht,h1=>by
  have sh:=h.aa.shape b.toNat hl;have Qj:=wS h b;have sc:∀(l:PY) (t:VS),(∀x∈l,x∈(aJ p b).l)->jx t<=1000000->t.1.length+l.length<=s.1.length+300->jx (lf (gY p node n) p node l t).2<=1000000:=fun l=>by
   induction l with
   |nil=>intro t _ g _;exact g
   |cons x l ih=>
    intro t hx g g1;have hxb:=sh.2.1 x (hx x jE);have Ug:x.toNat<p.aa.nodes.length:=jB;have shx:=h.aa.shape x.toNat Ug;simp only[List.length_cons]at g1;have Qg:∀y∈l,y∈(aJ p b).l:=fun y hy=>hx y (by simp[hy])
    unfold lf;split
    ·exact g
    split
    ·exact ih _ Qg (Fg _ _ g jB) (by show(t.1++[_]).length+_<=_;simp;omega)
    split
    ·rename_i kb;have QG:∀y∈(aJ p x).l.drop 1,0<=y/\y.toNat<x.toNat/\bJ p.aa.nodes y=18:=fun y hy=>by
      have Sx:y∈(nth p.aa.nodes x.toNat).l:=List.mem_of_mem_drop hy;have Vw:=shx.2.1 y Sx;refine⟨Vw.1,Vw.2,?_⟩;have hy:y∈(nth p.aa.nodes x.toNat).l.drop 1:=hy;rcases kb with kb|kb
      ·obtain⟨a,c,_,hb,hl|⟨d,hl,hd⟩⟩:=shx.1.jM kb
       ·rw[hl]at hy;simp at hy;subst hy;exact hb
       ·rw[hl]at hy;simp at hy;rcases hy with rfl|rfl
        ·exact hb
        ·exact hd
      ·obtain⟨a,c,hl,_,hb⟩:=shx.1.dH kb;rw[hl]at hy;simp at hy;subst hy;exact hb
     have UQ:=zx (p:=p) (node:=node) (n:=n) (T:=s.1.length+300) (B:=x.toNat) (fun c u c0 c1 c2 c3 c4=>zX h node n c u c0 jB c2 c3 jB) ((aJ p x).l.drop 1) t QG g jB;split
     ·exact UQ.1
     ·rename_i e;have e1:=UQ.2 (Bool.not_eq_true _ ▸ e);exact ih _ Qg UQ.1 (by rw[e1];omega)
    ·exact ih _ Qg g jB
  have:=sc (aJ p b).l s (fun x hx=>hx) ht jB;unfold gY;split
  ·exact this
  ·rw[Iy];exact this
abbrev ql:PW:=[.pt 3 0 0 0,.pt 1 0 0 0,.pt 2 0 0 0,.pt 7 0 0 0]
def fE(p:ae)(node:Int)(s:VS):PV:=[(1,.var 29 (bp p)),(2,.var 3 [rI node]),(3,.var 135 [.rs 4 (s.1.length+s.2.length) 3 s.1.length]),(4,.aG 179 3 ((s.1++s.2).map jQ)),(7,.var 129 [.dW 237 ql])]
attribute [go_sem] fE
def KC(node:Int)(w:Int->VS->Bool×VS)(L:PY)(s0:VS)(I:VS->Prop)(hL:L.length<=300)(WB:I s0)
  (hw:∀b∈L,∀s,I s->af prog 237 (rI b::ql) (fE p node s) (fun r l'=>r=rB (w b s).1/\l'=fE p node (w b s).2)) (hI:∀b∈L,∀s,I s->(w b s).1=false->I (w b s).2) :
  af prog 246 [ax eI 1 L,.dW 237 ql] (fE p node s0) (fun r l'=>r=rI (oa w L s0 0)/\l'=fE p node (iU w L s0).2):=by
 suffices key:∀(sR:VS) (iR:Int),sR=(iU w L s0).2->iR=oa w L s0 0->af prog 246 [ax eI 1 L,.dW 237 ql] (fE p node s0) (fun r l'=>r=rI iR/\l'=fE p node sR) from key _ _ rfl rfl
 intro sR iR Ua ZJ;refine aO func246 ntmps246 ?_;refine S ?_
 (repeat' (first|refine aq fun K hK=>?_|refine am ?_|(refine hK _ _ ?_;clear hK K)|(refine ao ?_ ?_<;>intro hc<;>try exact jz)|(refine cn ?_ ?_<;>intro hc<;>try exact jz)|refine ap ?_|exact jI|(clear hK K)))
 have M':=hK;clear hK;refine de (S:=Nat×VS) [(4,2),(8,11)] (fun t=>t.1<=L.length/\I t.2/\oa w (L.drop t.1) t.2 t.1=iR/\(iU w (L.drop t.1) t.2).2=sR) (fun t=>[(8,rI t.1)]) (fun t=>⟨[1,2,3,4,7],fE p node t.2⟩) (fun t=>L.length-t.1) (0,s0) ⟨Nat.zero_le _,WB,ZJ.symm,Ua.symm⟩ (dc jD bK) ?_;rintro⟨k,s⟩ ⟨hk,Yb,h1,h2⟩ Kr P9;simp only at hk Yb h1 h2 ⊢;by_cases Qd:k<L.length
 ·have W9:=hw _ (dZ Qd) s Yb;have ZK:=hI _ (dZ Qd) s Yb;rw[jh Qd,PM]at h1;rw[jh Qd,Cl]at h2;generalize UX:nth L k=x at*;generalize w x s=r at*;cases hr:r.1 with
  |true=>
   rw[if_pos hr]at h1 h2;simp only at h1 h2;subst h1 h2;rw[hr]at W9;refine S ?_
   (have W:=UX;repeat' (first|refine aq fun K hK=>?_|refine am ?_|(refine hK _ _ ?_;clear hK K)|(refine ao ?_ ?_<;>intro hc<;>try exact jz)|(refine cl W9 ?_)|refine M' _ _ ?_|(refine cn ?_ ?_<;>intro hc<;>try exact jz)|refine ap ?_|exact jI|(clear hK K)))
   (refine cj [.tmp 4] ?_ ?_<;>(try simp only[go_sem]))
  |false=>
   rw[if_neg (by rw[hr];decide)]at h1 h2;rw[hr]at W9;refine S ?_
   (have W:=UX;repeat' (first|refine aq fun K hK=>?_|refine am ?_|(refine hK _ _ ?_;clear hK K)|(refine ao ?_ ?_<;>intro hc<;>try exact jz)|(refine cl W9 ?_)|refine M' _ _ ?_|(refine cn ?_ ?_<;>intro hc<;>try exact jz)|refine ap ?_|exact jI|(clear hK K)))
   refine P9 _ _ (dI (k+1,r.2) ⟨by show k+1<=L.length;omega,ZK hr,h1,h2⟩ (by show L.length-(k+1)<L.length-k;omega) jD bK)
 ·have RT:k=L.length:=jB;subst RT;rw[List.drop_length]at h1 h2;have h1:iR=-1:=h1.symm;have h2:sR=s:=h2.symm;subst h1 h2;refine S ?_
  (repeat' (first|refine aq fun K hK=>?_|refine am ?_|(refine hK _ _ ?_;clear hK K)|(refine ao ?_ ?_<;>intro hc<;>try exact jz)|refine M' _ _ ?_|(refine cn ?_ ?_<;>intro hc<;>try exact jz)|refine ap ?_|exact jI|(clear hK K)))
  (refine cj [.tmp 4] ?_ ?_<;>(try simp only[go_sem]))
def Il(node:Int)(w:Int->VS->Bool×VS)(L:PY)(s0:VS)(I:VS->Prop)(hL:L.length<=300)(WB:I s0)
  (hw:∀b∈L,∀s,I s->af prog 237 (rI b::ql) (fE p node s) (fun r l'=>r=rB (w b s).1/\l'=fE p node (w b s).2)) (hI:∀b∈L,∀s,I s->(w b s).1=false->I (w b s).2) :
  af prog 238 [ax eI 1 L,.dW 237 ql] (fE p node s0) (fun r l'=>r=rB (iU w L s0).1/\l'=fE p node (iU w L s0).2):=by
 have hi:=KC node w L s0 I hL WB hw hI;rw[GM w L s0 0 jB];generalize oa w L s0 0=i at*;generalize (iU w L s0).2=sR at*;refine aO func238 ntmps238 ?_;refine S ?_
 (repeat' (first|refine aq fun K hK=>?_|refine am ?_|(refine hK _ _ ?_;clear hK K)|(refine ao ?_ ?_<;>intro hc<;>try exact jz)|refine cm (hi) ?_|(refine cn ?_ ?_<;>intro hc<;>try exact jz)|refine ap ?_|exact jI|(clear hK K)))
 (refine cj [.tmp 4] ?_ ?_<;>(try simp only[go_sem]))
theorem Fl{p:ae}(h:iY p)(node:Int):∀(n:Nat) (b:Int) (s:VS),0<=b->b.toNat<p.aa.nodes.length->b.toNat<n->bJ p.aa.nodes b=18->jx s<=1000000->s.1.length+300*b.toNat<=900000->
  af prog 237 (rI b::ql) (fE p node s) (fun r l'=>r=rB (gY p node n b s).1/\l'=fE p node (gY p node n b s).2)
 |0,b,s,h0,hl,hn,hk,ht,h1=>by omega
 |n+1,b,s,h0,hl,hn,hk,ht,h1=>by
  have ih:=Fl h node n;have sh:=h.aa.shape b.toNat hl;have SL:=sh.1.block hk;have QX:=sh.2.1;have Sy:=h.types;have QH:=h.ab;have Qj:=wS h b;have WD:=h.aa.many;have key:∀(rr:Bool×VS) (sR:VS) (bR:Bool),lf (gY p node n) p node (aJ p b).l s=rr->bR=rr.1->sR=(if rr.1=true then rr.2 else mG s.1.length rr.2)->af prog 237 (rI b::ql) (fE p node s) (fun r l'=>r=rB bR/\l'=fE p node sR):=by
   intro rr sR bR W4 UE Ua;have ZL:(aJ p b).l=(nth p.aa.nodes b.toNat).l:=rfl;rw[ZL]at W4 Qj;generalize hL:(nth p.aa.nodes b.toNat).l=L at*;unfold jx at ht;refine aO func237 ntmps237 ?_;refine S ?_
   (have W:=hL;repeat' (first|refine aq fun K hK=>?_|refine am ?_|(with_reducible refine gR 9 ?_);refine dE 9 (au 0 20) mixed ?_|(with_reducible refine gR 10 ?_);refine dC 10 ([3,4],[],[72]) [] (au 0 16) mixed ?_|(refine hK _ _ ?_;clear hK K)|(refine ao ?_ ?_<;>intro hc<;>try exact jz)|(refine cn ?_ ?_<;>intro hc<;>try exact jz)|refine ap ?_|exact jI|(clear hK K)))
   have M':=hK;clear hK;refine de (S:=Nat×VS) [(6,1),(9,2),(21,54)] (fun t=>t.1<=L.length/\jx t.2<=1000000/\t.2.1.length<=s.1.length+t.1/\s.1.length<=t.2.1.length/\lf (gY p node n) p node (L.drop t.1) t.2=rr) (fun t=>[(21,rI t.1),(6,rB false)]) (fun t=>⟨[1,2,3,4,7],fE p node t.2⟩) (fun t=>L.length-t.1) (0,s) ⟨Nat.zero_le _,ht,Nat.le_refl _,Nat.le_refl _,W4⟩ (dc jD bK) ?_;rintro⟨k,t⟩ ⟨Qt,VT,RL,YJ,RW⟩ Kr P9;simp only at Qt VT RL YJ RW ⊢;by_cases Qd:k<L.length
   rotate_left
   ·have RT:k=L.length:=jB;subst RT;rw[List.drop_length]at RW;have RW:rr=(false,t):=RW.symm;subst RW;have UE:bR=false:=UE;have Ua:sR=mG s.1.length t:=Ua;have Qi:(mG s.1.length t).1.length=s.1.length:=by unfold mG;simp;omega
    have R7:(mG s.1.length t).2.length+s.1.length=t.1.length+t.2.length:=by unfold mG;simp;omega
    have Ta:(mG s.1.length t).1++(mG s.1.length t).2=t.1++t.2:=by unfold mG;simp[<-List.append_assoc]
    refine S ?_
    (repeat' (first|refine aq fun K hK=>?_|refine am ?_|(with_reducible refine gR 9 ?_);refine dE 9 (au 0 20) mixed ?_|(with_reducible refine gR 10 ?_);refine dC 10 ([3,4],[],[72]) [] (au 0 16) mixed ?_|(refine hK _ _ ?_;clear hK K)|(refine ao ?_ ?_<;>intro hc<;>try exact jz)|refine M' _ _ ?_|(refine cn ?_ ?_<;>intro hc<;>try exact jz)|refine ap ?_|exact jI|(clear hK K)))
    subst UE Ua
    (refine cj [.tmp 6] ?_ ?_<;>(try simp only[go_sem]))
    show[_,_,(3,_),(4,_),_]=[_,_,(3,_),(4,_),_];rw[<-List.map_append,<-List.map_append,Ta,Qi,show s.1.length+(mG s.1.length t).2.length=t.1.length+t.2.length from jB]
   have hx:=SL _ (dZ Qd);have ZH:=QX _ (dZ Qd);rw[jh Qd]at RW;unfold lf at RW;generalize UX:nth L k=x at*;have Ug:x.toNat<p.aa.nodes.length:=jB;have shx:=h.aa.shape x.toNat Ug;have Rm:aJ p x=nth p.aa.nodes x.toNat:=rfl;rw[Rm]at RW;by_cases SM:x=node
   ·rw[if_pos SM]at RW;subst RW;have UE:bR=true:=UE;have Ua:sR=t:=Ua;subst UE Ua;refine S ?_
    (have W:=jA UX SM;repeat' (first|refine aq fun K hK=>?_|refine am ?_|(with_reducible refine gR 9 ?_);refine dE 9 (au 0 20) mixed ?_|(with_reducible refine gR 10 ?_);refine dC 10 ([3,4],[],[72]) [] (au 0 16) mixed ?_|(refine hK _ _ ?_;clear hK K)|(refine ao ?_ ?_<;>intro hc<;>try exact jz)|refine al 8 ?_|refine M' _ _ ?_|(refine cn ?_ ?_<;>intro hc<;>try exact jz)|refine ap ?_|exact jI|(clear hK K)))
    (refine aY [.tmp 6] ?_;try simp only[go_sem])
   rw[if_neg SM]at RW;by_cases k10:(nth p.aa.nodes x.toNat).kind=10
   ·rw[if_pos k10]at RW;obtain⟨a,ha,_⟩:=shx.1.right (.inl k10);have hal:=shx.2.1 a (by rw[ha];simp);have Rx:nth (nth p.aa.nodes x.toNat).l 0=a:=by rw[ha];rfl
    have Ub:(nth p.aa.nodes x.toNat).l.length=1:=by rw[ha];rfl
    unfold jx at VT;refine S ?_
    (have W:=jA UX (jA SM (jA k10 (jA Rx (Ub))));repeat' (first|refine aq fun K hK=>?_|refine am ?_|(with_reducible refine gR 9 ?_);refine dE 9 (au 0 20) mixed ?_|(with_reducible refine gR 10 ?_);refine dC 10 ([3,4],[],[72]) [] (au 0 16) mixed ?_|(refine hK _ _ ?_;clear hK K)|(refine ao ?_ ?_<;>intro hc<;>try exact jz)|refine al 8 ?_|refine rO (enc:=jQ) t.1 t.2 [⟨(nth p.aa.nodes x.toNat).name,nth p.types a.toNat,nth p.ab x.toNat⟩] ?_|refine M' _ _ ?_|(refine cn ?_ ?_<;>intro hc<;>try exact jz)|refine ap ?_|exact jI|(clear hK K)))
    have ZM:(⟨(nth p.aa.nodes x.toNat).name,nth p.types a.toNat,nth p.ab x.toNat⟩:bH)=oB p x:=by unfold oB;rw[Rm,Rx]
    rw[ZM];have ZN:=Fg (oB p x) t (T:=1000000) VT jB;refine P9 _ _ (oP [8] (k+1,pM (oB p x) t) ⟨by show k+1<=L.length;omega,ZN,by show(t.1++[_]).length<=s.1.length+(k+1);simp;omega,by show s.1.length<=(t.1++[_]).length;simp;omega,RW⟩ (by show L.length-(k+1)<L.length-k;omega) rfl Sd ?_ gJ);unfold fE pM;simp only[List.length_append,List.length_cons,List.length_nil,List.length_drop,List.map_append,List.map_cons,List.map_nil];rfl
   rw[if_neg k10]at RW;by_cases kb:(nth p.aa.nodes x.toNat).kind=15\/(nth p.aa.nodes x.toNat).kind=16
   ·rw[if_pos kb]at RW;have QG:∀y∈(nth p.aa.nodes x.toNat).l.drop 1,0<=y/\y.toNat<x.toNat/\bJ p.aa.nodes y=18:=fun y hy=>by
     have Sx:y∈(nth p.aa.nodes x.toNat).l:=List.mem_of_mem_drop hy;have Vw:=shx.2.1 y Sx;refine⟨Vw.1,Vw.2,?_⟩;rcases kb with kb|kb
     ·obtain⟨a,c,_,hb,hl|⟨d,hl,hd⟩⟩:=shx.1.jM kb
      ·rw[hl]at hy;simp at hy;subst hy;exact hb
      ·rw[hl]at hy;simp at hy;rcases hy with rfl|rfl
       ·exact hb
       ·exact hd
     ·obtain⟨a,c,hl,_,hb⟩:=shx.1.dH kb;rw[hl]at hy;simp at hy;subst hy;exact hb
    have QC:1<=(nth p.aa.nodes x.toNat).l.length:=by
     rcases kb with kb|kb
     ·obtain⟨a,c,_,hb,hl|⟨d,hl,hd⟩⟩:=shx.1.jM kb<;>(rw[hl];simp)
     ·obtain⟨a,c,hl,_,hb⟩:=shx.1.dH kb;rw[hl];simp
    have YK:List.take ((nth p.aa.nodes x.toNat).l.length-1) (List.drop 1 (nth p.aa.nodes x.toNat).l)=List.drop 1 (nth p.aa.nodes x.toNat).l:=List.take_of_length_le jE;have ZO:=wS h x;rw[Rm]at ZO;have QM:=Il (p:=p) node (gY p node n) ((nth p.aa.nodes x.toNat).l.drop 1) t (fun u=>jx u<=1000000/\u.1.length<=s.1.length+300) jF ⟨VT,jB⟩
     (fun y hy u hu=>ih y u (QG y hy).1 (by have:=(QG y hy).2.1;omega) (by have:=(QG y hy).2.1;omega) (QG y hy).2.2 hu.1 (by have:=(QG y hy).2.1;have:=hu.2;omega))
     (fun y hy u hu hf=>⟨zX h node n y u (QG y hy).1 (by have:=(QG y hy).2.1;omega) (QG y hy).2.2 hu.1 (by have:=(QG y hy).2.1;have:=hu.2;omega),by rw[C0 hf];exact hu.2⟩)
    have UQ:=zx (p:=p) (node:=node) (n:=n) (T:=s.1.length+300) (B:=x.toNat) (fun c u c0 c1 c2 c3 c4=>zX h node n c u c0 jB c2 c3 jB) ((nth p.aa.nodes x.toNat).l.drop 1) t QG VT jB;generalize iU (gY p node n) ((nth p.aa.nodes x.toNat).l.drop 1) t=KR at*;cases WE:KR.1 with
    |true=>
     rw[if_pos WE]at RW;subst RW;have UE:bR=true:=UE;have Ua:sR=KR.2:=Ua;subst UE Ua;rw[WE]at QM;refine S ?_
     (have W:=jA UX (jA SM (jA k10 (YK)));repeat' (first|refine aq fun K hK=>?_|refine am ?_|(with_reducible refine gR 9 ?_);refine dE 9 (au 0 20) mixed ?_|(with_reducible refine gR 10 ?_);refine dC 10 ([3,4],[],[72]) [] (au 0 16) mixed ?_|(refine hK _ _ ?_;clear hK K)|(refine ao ?_ ?_<;>intro hc<;>try exact jz)|refine al 8 ?_|(refine EC QM ?_)|refine M' _ _ ?_|(refine cn ?_ ?_<;>intro hc<;>try exact jz)|refine ap ?_|exact jI|(clear hK K)))
     all_goals(refine aY [.tmp 6] ?_;try simp only[go_sem])
    |false=>
     have R3:=UQ.2 WE;rw[if_neg (by rw[WE];decide)]at RW;rw[WE]at QM;refine S ?_
     (have W:=jA UX (jA SM (jA k10 (YK)));repeat' (first|refine aq fun K hK=>?_|refine am ?_|(with_reducible refine gR 9 ?_);refine dE 9 (au 0 20) mixed ?_|(with_reducible refine gR 10 ?_);refine dC 10 ([3,4],[],[72]) [] (au 0 16) mixed ?_|(refine hK _ _ ?_;clear hK K)|(refine ao ?_ ?_<;>intro hc<;>try exact jz)|refine al 8 ?_|(refine EC QM ?_)|refine M' _ _ ?_|(refine cn ?_ ?_<;>intro hc<;>try exact jz)|refine ap ?_|exact jI|(clear hK K)))
     all_goals refine P9 _ _ (oP [8] (k+1,KR.2) ⟨by show k+1<=L.length;omega,UQ.1,by show KR.2.1.length<=s.1.length+(k+1);rw[R3];omega,by show s.1.length<=KR.2.1.length;rw[R3];omega,RW⟩ (by show L.length-(k+1)<L.length-k;omega) rfl Sd (by simp only[go_sem];(try rfl)) gJ)
   ·rw[if_neg kb]at RW;have kb1:¬(nth p.aa.nodes x.toNat).kind=15:=fun h=>kb (.inl h)
    have kb2:¬(nth p.aa.nodes x.toNat).kind=16:=fun h=>kb (.inr h)
    refine S ?_
    (have W:=jA UX (jA SM (jA k10 (jA kb1 (kb2))));repeat' (first|refine aq fun K hK=>?_|refine am ?_|(with_reducible refine gR 9 ?_);refine dE 9 (au 0 20) mixed ?_|(with_reducible refine gR 10 ?_);refine dC 10 ([3,4],[],[72]) [] (au 0 16) mixed ?_|(refine hK _ _ ?_;clear hK K)|(refine ao ?_ ?_<;>intro hc<;>try exact jz)|refine al 8 ?_|refine M' _ _ ?_|(refine cn ?_ ?_<;>intro hc<;>try exact jz)|refine ap ?_|exact jI|(clear hK K)))
    refine P9 _ _ (oP [8] (k+1,t) ⟨by show k+1<=L.length;omega,VT,by show t.1.length<=s.1.length+(k+1);omega,YJ,RW⟩ (by show L.length-(k+1)<L.length-k;omega) rfl Sd (by simp only[go_sem];(try rfl)) gJ)
  have Qf:=key _ _ _ rfl rfl rfl;unfold gY;cases e:(lf (gY p node n) p node (aJ p b).l s).1 with
  |true=>rw[e]at Qf;simp only[if_true]at Qf ⊢;rw[e];exact Qf
  |false=>rw[e]at Qf;simp only[Bool.false_eq_true,if_false]at Qf ⊢;exact Qf
def Fs(h:iY p)(Q5:∀k,k<p.aa.nodes.length->0<=nth p.fn k/\nth p.fn k<p.aa.av.length)(node:Int)(h0:0<=node)(h1:node.toNat<p.aa.nodes.length):aA prog 231 [.agg (bp p),rI node] (ax jQ 3 (gN p node)):=by
 obtain⟨f0,f1⟩:=Q5 _ h1;have ZA:=h.fn;have WD:=h.aa.many;have Uc:(nth p.fn node.toNat).toNat<p.aa.av.length:=jB;have Sa:=px h.aa Uc;have Vm:=h.aa.body _ (dZ Uc);have ZP:=(h.aa.fn _ (dZ Uc)).2;have Rp:=yZ (p:=p) (node:=node) p.aa.nodes.length (nth p.aa.av (nth p.fn node.toNat).toNat).body (iT (nth p.aa.av (nth p.fn node.toNat).toNat).params 0,[]);have Rn:=Fl h node p.aa.nodes.length (nth p.aa.av (nth p.fn node.toNat).toNat).body (iT (nth p.aa.av (nth p.fn node.toNat).toNat).params 0,[]) Sa.1 (by have:=Sa.1;have:=Sa.2;omega) (by have:=Sa.1;have:=Sa.2;omega) Vm (by unfold jx;rw[vR];simp;omega) (by show(iT _ _).length+_<=_;rw[vR];have:=Sa.1;have:=Sa.2;omega);unfold gN;simp only at Rp;generalize ke p node p.aa.nodes.length (nth p.aa.av (nth p.fn node.toNat).toNat).body (iT (nth p.aa.av (nth p.fn node.toNat).toNat).params 0)=O at*;generalize gY p node p.aa.nodes.length (nth p.aa.av (nth p.fn node.toNat).toNat).body (iT (nth p.aa.av (nth p.fn node.toNat).toNat).params 0,[])=R at*;generalize hF:nth p.fn node.toNat=g at*;generalize hG:nth p.aa.av g.toNat=f at*;refine bI func231 ntmps231 ?_
 (have W:=jA hF hG;repeat' (first|refine aq fun K hK=>?_|refine am ?_|(with_reducible refine gR 1 ?_);refine dE 1 (au 0 12) mixed ?_|(refine hK _ _ ?_;clear hK K)|(refine ao ?_ ?_<;>intro hc<;>try exact jz)|refine bx 1 ?_|refine bx 2 ?_|refine al 5 ?_|refine al 3 ?_|(refine cn ?_ ?_<;>intro hc<;>try exact jz)|refine ap ?_|exact jI|(clear hK K)))
 refine gj (cY.fL 4 3 0 179 3 rfl jC rfl rfl) ?_
 (refine S ?_;try exact jI)
 have M':=hK;clear hK;have RU:∀k,(iT (f.params.take k) 0).length=min k f.params.length:=fun k=>by rw[vR];simp
 refine de (S:=Nat) [(7,2),(23,15)] (fun k=>k<=f.params.length) (fun k=>[(23,rI k)]) (fun k=>⟨[],[(1,.var 29 (bp p)),(2,.var 3 [rI node]),(5,.var 132 (eZ f)),(3,.var 135 [.rs 4 k 3 k]),(4,.aG 179 3 ((iT (f.params.take k) 0).map jQ))]⟩) (fun k=>f.params.length-k) 0 jB (dc rfl bK) ?_;rintro k hk Kr P9;have Rc:(iT (f.params.take k) 0).length=k:=by rw[RU];omega
 by_cases Qd:k<f.params.length
 ·(refine S ?_;try exact jI)
  (have W:=Rc;repeat' (first|refine aq fun K hK=>?_|refine am ?_|(with_reducible refine gR 1 ?_);refine dE 1 (au 0 12) mixed ?_|(refine hK _ _ ?_;clear hK K)|(refine ao ?_ ?_<;>intro hc<;>try exact jz)|refine al 6 ?_|refine M' _ _ ?_|(refine cn ?_ ?_<;>intro hc<;>try exact jz)|refine ap ?_|exact jI|(clear hK K)))
  refine P9 _ _ (oP [6] (k+1) jB (by show f.params.length-(k+1)<f.params.length-k;omega) rfl Sd ?_ gJ);show Hp.mk _ [_,_,_,_,_]=Hp.mk _ [_,_,_,_,(4,.aG _ _ ((iT (f.params.take (k+1)) 0).map jQ))];rw[qF Qd,CB,List.map_append];have:((0:Int)+(f.params.take k).length)=(k:Int):=by simp;omega
  rw[this];rfl
 ·have RT:k=f.params.length:=jB;subst RT;rw[List.take_length]at Rc ⊢;generalize iT f.params 0=V at*;rw[<-Rc];cases hR:R.1 with
  |true=>
   cases O with
   |none=>rw[Rp.1]at hR;cases hR
   |some W=>
    have hW:R.2.1=W:=Rp.2;rw[hR]at Rn;refine S ?_
    (repeat' (first|refine aq fun K hK=>?_|refine am ?_|(with_reducible refine gR 1 ?_);refine dE 1 (au 0 12) mixed ?_|(refine hK _ _ ?_;clear hK K)|(refine ao ?_ ?_<;>intro hc<;>try exact jz)|refine al 7 ?_|(refine cl Rn ?_)|refine M' _ _ ?_|(refine cn ?_ ?_<;>intro hc<;>try exact jz)|refine ap ?_|exact jI|(clear hK K)))
    subst hW;refine jf [.tmp 4] ?_;exact db.lF R.2.1 R.2.2 rfl (by show some (Row.aG _ _ _)=some (Row.aG _ _ _);rw[List.map_append]) rfl rfl
  |false=>
   cases O with
   |some W=>rw[Rp.1]at hR;cases hR
   |none=>
    rw[hR]at Rn;refine S ?_
    (repeat' (first|refine aq fun K hK=>?_|refine am ?_|(with_reducible refine gR 1 ?_);refine dE 1 (au 0 12) mixed ?_|(refine hK _ _ ?_;clear hK K)|(refine ao ?_ ?_<;>intro hc<;>try exact jz)|refine al 7 ?_|(refine cl Rn ?_)|refine M' _ _ ?_|(refine cn ?_ ?_<;>intro hc<;>try exact jz)|refine ap ?_|exact jI|(clear hK K)))
    refine jf [.tmp 4] ?_;exact db.nil _ _
variable{inp:PY}
def FR(hs:bY p){R:RS}(h:bo p R)(hw:¬ik p R.st (aW p R.st) inp):Mv p inp (aW p R.st) R (R.bF p (aW p R.st) inp).1:=by
 obtain⟨s0,s1,s2,_⟩:=h.stmt hs;have sh:=(hs.ok.aa.shape _ s1);have Qy:=h.inv.ok.nf;have h1:=h.one;have WG:=h.full;generalize D':aW p R.st=node at*;have hR:=Mv.refl p inp node R;have QN:Mv p inp node R R.on:=hR.lw (vH Qy h1) ⟨rfl,rfl,rfl,rfl,rfl⟩;have J':∀v,Mv p inp node R (R.store p node v):=fun v=>hR.lw (wO Qy h1 _ _ _) (Ba _ _ _ _)
 have VQ:∀b,Mv p inp node R (R.aZ b):=fun b=>hR.lw (DA Qy h1 _) ⟨rfl,rfl,rfl,rfl,rfl⟩
 have ZQ:∀b,Mv p inp node R (R.on.aZ b):=fun b=>QN.lw (DA (R:=R.on) (by show R.nf<=(R.ak.set _ _).length;simpa using Qy) h1 _) ⟨rfl,rfl,rfl,rfl,rfl⟩
 have RL:∀v,Mv p inp node R (R.bh p v):=fun v=>hR.lw (Db Qy p v) (xU _ _ _)
 unfold RS.bF;simp only;split
 ·rename_i e;obtain⟨a,ha,hr⟩:=sh.1.right e;have Qa:(aJ p node).l=[a]:=ha;have hx:nth (aJ p node).l 0=a:=by rw[Qa];rfl
  unfold RS.right;simp only[hx];split
  ·rename_i e1;exact FP R p inp node a WG ⟨by rw[Qa];simp,by rw[hx];exact e1⟩
  split
  ·rename_i e2;have Ra:¬((inp.length:Int)<=R.in_):=fun P'=>hw ⟨e,by rw[hx];exact e2,P'⟩
   have hm:Mv p inp node R { R with in_:=R.in_+1 }:=⟨⟨[],jE⟩,Nat.le_refl _,fun _ _=>rfl,by show R.in_<=R.in_+1;omega,.inr (by show R.in_+1<=_;omega),.inl jl,fun _ _ _=>rfl,.inl rfl,rfl⟩;exact hm.lw (wO (by exact Qy) (by exact h1) _ _ _) (Ba _ _ _ _)
  split
  ·have hf:=Ib R p inp node a;obtain⟨f1,f2⟩:=Im R p a;split
   ·exact hf.lw (wO (by rw[f1,f2];exact Qy) (by rw[f1];exact h1) _ _ _) (Ba _ _ _ _)
   ·exact hf
  split
  ·exact J' _
  ·exact hR
 split
 ·rename_i e1;obtain⟨a,ha,hr⟩:=sh.1.oN e1;have Qa:(aJ p node).l=[a]:=ha;have hx:nth (aJ p node).l 0=a:=by rw[Qa];rfl
  rw[hx];exact FP R p inp node a WG ⟨by rw[Qa];simp,by rw[hx];exact hr⟩
 split
 ·exact PR R p inp node Qy h1
 split
 ·split
  ·exact RL _
  split
  ·exact hR
  ·exact RL _
 split
 ·exact hR
 split
 ·split
  ·exact hR
  ·have hm:∀t,Mv p inp node R { R with aS:=R.aS++[t] }:=fun t=>⟨⟨[t],rfl,Nat.le_refl _⟩,Nat.le_refl _,fun _ _=>rfl,Int.le_refl _,.inl rfl,.inl jl,fun _ _ _=>rfl,.inl rfl,rfl⟩
   exact(hm _).lw (vH (by exact Qy) (by exact h1)) ⟨rfl,rfl,rfl,rfl,rfl⟩
 split
 ·(repeat' split)<;>first|exact ZQ _|exact QN
 split
 ·split
  ·exact VQ _
  ·exact QN
 ·exact hR
structure yb(inp:List Int)(s:aw):Prop where
 s0:0<=s.status
 s3:s.status<=3
 none:s.status=2->s.ah.length=0
 bL:s.status=3<->s.bL≠0
 jd:s.in_<=inp.length
structure ml(p:ae)(inp:List Int)(s b:aw):Prop where
 out:∃o:List ByteArray,b.aS=s.aS++o/\o.length<=1
 hl:s.heap.length<=b.heap.length
 len:∀k,k<s.heap.length->(nth b.heap k).length=(nth s.heap k).length
 i0:s.in_<=b.in_
 nf:b.ah.length<=s.ah.length\/(b.ah.length<=s.ah.length+1/\AW p (bq p s)/\0<=bq p b/\(s.status≠2/\s.status≠3))
 low:∀k,k+1<s.ah.length->k+1<b.ah.length->nth b.ah k=nth s.ah k
 t0:s.time<=b.time
 t1:b.time<=s.time+1
 still:s.status=2\/s.status=3->b=s
 go:¬(s.status=2\/s.status=3)->b.status≠1->b.time=s.time+1
def ml.refl(p:ae)(inp:PY)(s:aw)(h:s.status=2\/s.status=3):ml p inp s s:=
 ⟨⟨[],jE⟩,Nat.le_refl _,fun _ _=>rfl,Int.le_refl _,.inl jl,fun _ _ _=>rfl,Int.le_refl _,jB,fun _=>rfl,fun h'=>(h' h).elim⟩
variable{s:aw}
def ET(hs:bY p){n:Nat}(h:gh p n s)(hn:inp.length<=1000)(hq:yb inp s):yb inp (dO p s inp)/\ml p inp s (dO p s inp):=by
 have hb:=CK hs h.inv hn;generalize Sm:dO p s inp=b at hb ⊢;unfold dO at Sm;by_cases h0:bq p s<0
 ·rw[if_pos h0]at Sm;subst Sm;refine⟨hq,ml.refl p inp s ?_⟩;apply Classical.byContradiction;intro hh;have hd:=h.inv.eF (fun e=>hh (.inl e)) 0 jC;obtain⟨s0,_⟩:=hd.stmt hs;rw[RS.dt]at s0;unfold bq at h0;rw[if_neg hh]at h0;have:aW p { s with status:=0 }=aW p s:=rfl;omega
 rw[if_neg h0]at Sm;have h2:¬(s.status=2\/s.status=3):=fun hh=>h0 (by unfold bq;rw[if_pos hh];decide)
 have WH:s.bL=0:=Classical.byContradiction fun e=>h2 (.inr (hq.bL.2 e))
 by_cases hw:ik p s (bq p s) inp
 ·rw[if_pos hw]at Sm;subst Sm;refine⟨⟨by show(0:Int)<=1;decide,by show(1:Int)<=3;decide,fun e=>absurd e (by show¬((1:Int)=2);decide),⟨fun e=>absurd e (by show¬((1:Int)=3);decide),fun e=>(e WH).elim⟩,hq.jd⟩,
   ⟨⟨[],jE⟩,Nat.le_refl _,fun _ _=>rfl,Int.le_refl _,.inl jl,fun _ _ _=>rfl,Int.le_refl _,by show s.time<=s.time+1;omega,fun e=>(h2 e).elim,fun _ e=>(e rfl).elim⟩⟩
 rw[if_neg hw]at Sm;simp only at Sm;have hd:=h.inv.eF (fun hh=>h2 (.inl hh)) 0 jC;have J':(RS.of { s with status:=0 }).st={ s with status:=0 }:=RS.dt _;have QF:aW p (RS.of { s with status:=0 }).st=bq p s:=by rw[RS.dt];unfold bq;rw[if_neg h2];rfl
 have hm:=FR hs hd (inp:=inp) (by rw[QF,J'];exact hw);have ha:=fun e=>hd.bF hs hn (by rw[QF,J'];exact hw) e
 rw[QF]at hm ha;generalize (RS.of { s with status:=0 }).bF p (bq p s) inp=X at*;by_cases hz:X.2=0
 rotate_left
 ·rw[if_pos hz]at Sm;subst Sm;exact⟨⟨by show(0:Int)<=3;decide,by show(3:Int)<=3;decide,fun e=>absurd e (by show¬((3:Int)=2);decide),⟨fun _=>hz,fun _=>rfl⟩,hq.jd⟩,
   ⟨⟨[],jE⟩,Nat.le_refl _,fun _ _=>rfl,Int.le_refl _,.inl jl,fun _ _ _=>rfl,by show s.time<=s.time+1;omega,by show s.time+1<=s.time+1;omega,fun e=>(h2 e).elim,fun _ _=>rfl⟩⟩
 rw[if_neg (fun e=>e hz)]at Sm;have hA:=ha hz;have VU:cO p { X.1 with time:=s.time+1 }:=⟨⟨hA.inv.ok.nf,hA.inv.ok.jp⟩,hA.inv.ak,hA.inv.fr,hA.inv.busy,hA.inv.go⟩;have VV:=ve p (RS.left { X.1 with time:=s.time+1 }+1) { X.1 with time:=s.time+1 } VU.ok.nf VU.go;have UY:=pi p (RS.left { X.1 with time:=s.time+1 }+1) { X.1 with time:=s.time+1 };have hok:(RS.settle { X.1 with time:=s.time+1 } p).nf<=(RS.settle { X.1 with time:=s.time+1 } p).ak.length:=(pq (RS.left { X.1 with time:=s.time+1 }+1) { X.1 with time:=s.time+1 } VU jB).1.ok.nf;have hX:Mv p inp (bq p s) (RS.of { s with status:=0 }) { X.1 with time:=s.time+1 }:=⟨hm.out,hm.hl,hm.len,hm.i0,hm.i1,hm.nf,hm.low,hm.st,hm.bL⟩;have Rh:=hX.lw VV UY;have W0:b.time=s.time+1:=by rw[<-Sm];exact UY.time
 change (RS.settle { X.1 with time:=s.time+1 } p).st=b at Sm
 change Mv p inp (bq p s) _ (RS.settle { X.1 with time:=s.time+1 } p)at Rh
 generalize RS.settle { X.1 with time:=s.time+1 } p=T at*;have RN:b.ah.length=T.nf:=by rw[<-Sm];show(T.ak.take T.nf).length=_;simp;omega
 have ZR:∀k,k<T.nf->nth b.ah k=nth T.ak k:=fun k hk=>by rw[<-Sm];exact zP _ _ _ hk
 have QH:(RS.of { s with status:=0 }).nf=s.ah.length:=rfl;have Ud:b.status=T.status:=by rw[<-Sm];rfl
 have Yc:b.bL=T.bL:=by rw[<-Sm];rfl
 have WI:b.in_=T.in_:=by rw[<-Sm];rfl
 have WJ:b.heap=T.heap:=by rw[<-Sm];rfl
 have Yd:b.aS=T.aS:=by rw[<-Sm];rfl
 have Ue:T.status=0\/(T.status=2/\T.nf=0):=Rh.st;have Ye:T.bL=s.bL:=Rh.bL;refine⟨⟨by rw[Ud];rcases Ue with e|e<;>omega,by rw[Ud];rcases Ue with e|e<;>omega,fun e=>?_,?_,?_⟩,⟨by rw[Yd];exact Rh.out,by rw[WJ];exact Rh.hl,by rw[WJ];exact Rh.len,by rw[WI];exact Rh.i0,?_,fun k k1 k2=>?_,jB,jB,fun e=>(h2 e).elim,fun _ _=>W0⟩⟩
 ·rw[Ud]at e;rw[RN];rcases Ue with e'|e'<;>omega
 ·rw[Ud,Yc,Ye,WH];rcases Ue with e|e<;>(constructor<;>intro e'<;>omega)
 ·rw[WI];rcases Rh.i1 with e|e
  ·rw[e];exact hq.jd
  ·exact e
 ·rw[RN];rcases Rh.nf with e|⟨e1,e2⟩
  ·exact .inl e
  by_cases P':T.nf<=s.ah.length
  ·exact .inl P'
  refine .inr ⟨e1,e2,?_,fun e=>h2 (.inl e),fun e=>h2 (.inr e)⟩;have QD:¬(b.status=2\/b.status=3):=by rw[Ud];rcases Ue with e|e<;>omega
  have ZS:=hb.eF (fun hh=>QD (.inl hh)) 0 jC;obtain⟨s0,_⟩:=ZS.stmt hs;rw[RS.dt]at s0;unfold bq;rw[if_neg QD];exact s0
 ·rw[RN]at k2;rw[ZR k jB,Rh.low k (by rw[QH];exact k1) k2];rfl
def IP(hs:bY p)(inp:PY):yb inp (dx p):=by
 rw[yp];have hI:=(sn hs).inv;have VV:=ve p ((fm p).left+1) (fm p) hI.ok.nf hI.go;have UY:=pi p ((fm p).left+1) (fm p);have hok:((fm p).settle p).nf<=((fm p).settle p).ak.length:=(pq ((fm p).left+1) (fm p) hI jB).1.ok.nf;change Lw _ ((fm p).settle p)at VV
 change Kept _ ((fm p).settle p)at UY
 generalize (fm p).settle p=T at*;have h0:T.status=0\/(T.status=2/\T.nf=0):=VV.st;have ht:T.bL=0:=UY.bL;have hi:T.in_=0:=UY.in_;refine⟨by show 0<=T.status;omega,by show T.status<=3;omega,fun e=>?_,?_,by show T.in_<=_;omega⟩
 ·show(T.ak.take T.nf).length=0;have e:T.status=2:=e;have:T.nf=0:=jB;rw[this];rfl
 ·show T.status=3<->T.bL≠0;constructor<;>intro e<;>omega
def K2(p:ae)(s:aw)(h:¬(s.status=2\/s.status=3))(c:Int)(hc:c=0\/c=1):bq p { s with status:=c }=bq p s:=by unfold bq;rw[if_neg h,if_neg (by show¬(c=2\/c=3);omega)];rfl
def wZ(hs:bY p)(hI:bC p s)(h:¬(s.status=2\/s.status=3)):¬bq p s<0:=fun h0=>by have hd:=hI.eF (fun e=>h (.inl e)) 0 jC;obtain⟨s0,_⟩:=hd.stmt hs;rw[RS.dt]at s0;unfold bq at h0;rw[if_neg h]at h0;have:aW p { s with status:=0 }=aW p s:=rfl;omega
def wA(hs:bY p)(hI:bC p s)(hn:inp.length<=1000) :
  ((s.status=2\/s.status=3)/\dO p s inp=s)\/(¬(s.status=2\/s.status=3)/\ik p s (bq p s) inp/\dO p s inp={ s with status:=1 })\/
   (¬(s.status=2\/s.status=3)/\¬ik p s (bq p s) inp/\(dO p s inp).status≠1/\(dO p s inp).time=s.time+1):=by
 by_cases h2:s.status=2\/s.status=3
 ·refine .inl ⟨h2,?_⟩;unfold dO;rw[if_pos (by unfold bq;rw[if_pos h2];decide)]
 have h0:=wZ hs hI h2;by_cases hw:ik p s (bq p s) inp
 ·refine .inr (.inl ⟨h2,hw,?_⟩);unfold dO;rw[if_neg h0,if_pos hw]
 refine .inr (.inr ⟨h2,hw,?_⟩);have hd:=hI.eF (fun hh=>h2 (.inl hh)) 0 jC;have J':(RS.of { s with status:=0 }).st={ s with status:=0 }:=RS.dt _;have QF:aW p (RS.of { s with status:=0 }).st=bq p s:=by rw[RS.dt];unfold bq;rw[if_neg h2];rfl
 have hm:=FR hs hd (inp:=inp) (by rw[QF,J'];exact hw);have ha:=fun e=>hd.bF hs hn (by rw[QF,J'];exact hw) e
 rw[QF]at hm ha;unfold dO;rw[if_neg h0,if_neg hw];simp only;generalize (RS.of { s with status:=0 }).bF p (bq p s) inp=X at*;by_cases hz:X.2=0
 rotate_left
 ·rw[if_pos hz];exact⟨by show¬((3:Int)=1);decide,rfl⟩
 rw[if_neg (fun e=>e hz)];have hA:=ha hz;have VU:cO p { X.1 with time:=s.time+1 }:=⟨⟨hA.inv.ok.nf,hA.inv.ok.jp⟩,hA.inv.ak,hA.inv.fr,hA.inv.busy,hA.inv.go⟩;have VV:=(ve p (RS.left { X.1 with time:=s.time+1 }+1) { X.1 with time:=s.time+1 } VU.ok.nf VU.go).st;have UY:=pi p (RS.left { X.1 with time:=s.time+1 }+1) { X.1 with time:=s.time+1 };have hX:X.1.status=0\/(X.1.status=2/\X.1.nf=0):=hm.st;refine⟨?_,UY.time⟩;show¬((io p (RS.left { X.1 with time:=s.time+1 }+1) { X.1 with time:=s.time+1 }).status=1);rcases VV with e|e
 ·rw[e];show¬(X.1.status=1);omega
 ·rw[e.1];decide
def OJ(hs:bY p)(hI:bC p s)(hn:inp.length<=1000)(h2:¬(s.status=2\/s.status=3))(Qr:gg p (bq p s))(hk:(aJ p (nth (aJ p (bq p s)).l 0)).kind=19)(Qd:s.in_<inp.length):(dO p s inp).status≠1/\(dO p s inp).in_=s.in_+1:=by
 have hw:¬ik p s (bq p s) inp:=fun⟨_,_,c⟩=>jB
 have h0:=wZ hs hI h2;rcases wA hs hI hn with⟨a,b⟩|⟨a,b,c⟩|⟨a,b,c,d⟩
 ·exact(h2 a).elim
 ·exact(hw b).elim
 refine⟨c,?_⟩;clear c d;unfold dO;rw[if_neg h0,if_neg hw];have e:(RS.of { s with status:=0 }).bF p (bq p s) inp=(({ RS.of { s with status:=0 }with in_:=s.in_+1 }:RS).store p (bq p s) (vI (nth inp s.in_.toNat)),0):=by unfold RS.bF;simp only;rw[if_pos (show(aJ p (bq p s)).kind=10\/(aJ p (bq p s)).kind=11 from Qr)];unfold RS.right;simp only;rw[jN,if_pos hk];rfl
 simp only;rw[e,if_neg (fun h=>h rfl)];exact(pi p _ _).in_
def ig(s:aw)(k:Nat)(v:ai):aw:={ s with ah:=s.ah.set (s.ah.length-1) { s.cC with ab:=s.cC.ab.set k v } }
def br(p:ae)(s:aw)(name:P0)(v:ai):Option aw:=
 if bq p s<0\/fT v=false\/v.ty=4 then none
 else if lJ name v.ty (gN p (bq p s)) 0<0 then none
 else some (ig s (nth (gN p (bq p s)) (lJ name v.ty (gN p (bq p s)) 0).toNat).slot.toNat v)
section
variable {p:ae}{s s':aw}
def A7(h1:1<=s.ah.length)(k:Nat)(v:ai):(ig s k v).cC={ s.cC with ab:=s.cC.ab.set k v }:=by show nth (s.ah.set _ _) ((s.ah.set _ _).length-1)=_;rw[List.length_set];exact(Go.Gd.bQ _ _ _ _ jB).trans (if_pos rfl)
def Ix(h1:1<=s.ah.length)(k:Nat)(v:ai):aW p (ig s k v)=aW p s:=by unfold aW;rw[A7 h1];rfl
def DV(h1:1<=s.ah.length)(k:Nat)(v:ai):bq p (ig s k v)=bq p s:=by unfold bq;rw[Ix h1];rfl
def LP(h1:1<=s.ah.length)(k:Nat)(u v:ai):ig (ig s k u) k v=ig s k v:=by have e:=A7 h1 k u;have hl:(ig s k u).ah.length=s.ah.length:=List.length_set;unfold ig at e hl ⊢;rw[e,hl];simp only[List.set_set]
variable{n:Nat}
def Km(h:gh p n s)(h1:1<=s.ah.length)(k:Nat){v:ai}(hv:bn v.n):gh p n (ig s k v):=by
 have hl:(ig s k v).ah.length=s.ah.length:=List.length_set;have hn:∀j,nth (ig s k v).ah j=if j=s.ah.length-1 then{ s.cC with ab:=s.cC.ab.set k v }else nth s.ah j:=fun j=>Go.Gd.bQ _ _ _ _ jB
 have hi:=h.inv.inv;have Qy:(RS.of s).nf=s.ah.length:=rfl;have Vx:(RS.of (ig s k v)).nf=s.ah.length:=hl;have ht:(RS.of s).aF=s.cC:=rfl;have ZT:(RS.of (ig s k v)).aF={ s.cC with ab:=s.cC.ab.set k v }:=A7 h1 k v;refine⟨⟨⟨RS.kM _,by show(ig s k v).ah.length<=8;rw[hl];exact hi.ak,fun j hj=>?_,fun j hj=>?_,fun e=>by rw[Vx];exact hi.go e⟩,fun e=>?_,h.inv.cells,h.inv.outs,h.inv.iS,h.inv.jd⟩,⟨fun f hf=>?_,h.bn.hp⟩,h.t0,h.t1⟩
 ·rw[Vx]at hj;show dM p (nth (ig s k v).ah j);rw[hn];split
  ·have:=hi.fr (s.ah.length-1) (by rw[Qy];omega);have hf:dM p s.cC:=this;exact⟨hf.f0,hf.f1,by show((s.cC.ab.set k v).length:Int)=_;rw[List.length_set];exact hf.sl,hf.pl,hf.dec⟩
  ·exact hi.fr j hj
 ·rw[Vx]at hj;show nX p (nth (ig s k v).ah j);rw[hn,jN];exact hi.busy j hj
 ·rw[ZT];have:=h.inv.cC e;rw[ht]at this;exact this
 ·rcases List.mem_or_eq_of_mem_set hf with hf|rfl
  ·exact h.bn.sl f hf
  ·exact Ds (h.bn.sl s.cC (dZ (show s.ah.length-1<s.ah.length from jB))) _ hv
def HH(h:gh p n s){name:P0}{v:ai}(hv:bn v.n)(e:br p s name v=some s'):gh p n s'/\s'.time=s.time/\bq p s'=bq p s/\1<=s.ah.length:=by
 unfold br at e;split at e
 ·cases e
 rename_i h0;split at e
 ·cases e
 cases e;have h2:s.status≠2:=fun e=>h0 (.inl (by unfold bq;rw[if_pos (.inl e)];decide))
 have h1:1<=s.ah.length:=h.inv.inv.go h2;exact⟨Km h h1 _ hv,rfl,DV h1 _ _,h1⟩
def H4(h:gh p n s){name:P0}{u v:ai}(ht:u.ty=v.ty)(hm:fT v=true)(e:br p s name u=some s'):br p s' name v=br p s name v/\∃s2,br p s name v=some s2:=by
 unfold br at e;split at e
 ·cases e
 rename_i h0;split at e
 ·cases e
 rename_i hf;cases e;have h2:s.status≠2:=fun e=>h0 (.inl (by unfold bq;rw[if_pos (.inl e)];decide))
 have h1:1<=s.ah.length:=h.inv.inv.go h2;have hc:¬(bq p s<0\/fT v=false\/v.ty=4):=by
  rintro(h'|h'|h')
  ·exact h0 (.inl h')
  ·rw[hm]at h';cases h'
  ·exact h0 (.inr (.inr (by rw[ht];exact h')))
 rw[ht]at hf ⊢;constructor
 ·unfold br;rw[DV h1,if_neg hc,if_neg hf,if_neg hc,if_neg hf,LP h1]
 ·unfold br;rw[if_neg hc,if_neg hf];exact⟨_,rfl⟩
end
theorem BC{p:ae}(h:bY p):∀(j i:Nat),j<p.aa.av.length->i<j->(nth p.aa.av i).body.toNat<js p.aa j
 |0,i,_,h2=>by omega
 |j+1,i,h1,h2=>by
  have hc:=(h.av j jB).chain.le;have e:js p.aa (j+1)=(nth p.aa.av j).body.toNat+1:=by unfold js;rw[jN];rfl
  rw[e];by_cases k:i=j
  ·subst k;omega
  ·have:=BC h j i jB jB;omega
def Ld(h:bY p){i j:Nat}(hi:i<p.aa.av.length)(hj:j<p.aa.av.length){a:Nat}(h1:js p.aa i<=a)(h2:a<=(nth p.aa.av i).body.toNat)(h3:js p.aa j<=a)(h4:a<=(nth p.aa.av j).body.toNat):i=j:=by
 rcases Nat.lt_trichotomy i j with k|k|k
 ·have:=BC h j i hj k;omega
 ·exact k
 ·have:=BC h i j hi k;omega
def qt(p:ae)(j:Nat)(v:bH):Prop:=0<=v.slot/\v.slot<nth p.size j
def M9(h:iY p){x:Int}(hx:x.toNat<p.aa.nodes.length)(kb:(nth p.aa.nodes x.toNat).kind=15\/(nth p.aa.nodes x.toNat).kind=16):∀y∈(nth p.aa.nodes x.toNat).l.drop 1,bJ p.aa.nodes y=18:=fun y hy=>by
 have shx:=h.aa.shape x.toNat hx;rcases kb with kb|kb
 ·obtain⟨a,c,_,hb,hl|⟨d,hl,hd⟩⟩:=shx.1.jM kb
  ·rw[hl]at hy;simp at hy;subst hy;exact hb
  ·rw[hl]at hy;simp at hy;rcases hy with rfl|rfl
   ·exact hb
   ·exact hd
 ·obtain⟨a,c,hl,_,hb⟩:=shx.1.dH kb;rw[hl]at hy;simp at hy;subst hy;exact hb
theorem Fp{p:ae}(h:bY p){j:Nat}(hj:j<p.aa.av.length)(node:Int):∀(n:Nat) (b:Int) (vars R:List bH),hP p j ⟨b,0⟩->(∀v∈vars,qt p j v)->ke p node n b vars=some R->(∀v∈R,qt p j v)/\js p.aa j<=node.toNat/\node.toNat<=(nth p.aa.av j).body.toNat
 |0,b,vars,R,_,_,e=>by cases e
 |n+1,b,vars,R,hb,hv,e=>by
  have ih:=Fp h hj node n;have hf:=h.av j hj;have aC:∀(l:PY) (vs R:List bH),(∀y∈l,hP p j ⟨y,0⟩)->(∀v∈vs,qt p j v)->mV (ke p node n) vs l=some R->(∀v∈R,qt p j v)/\js p.aa j<=node.toNat/\node.toNat<=(nth p.aa.av j).body.toNat:=fun l=>by
   induction l with
   |nil=>intro vs R _ _ e;cases e
   |cons y l ihl=>
    intro vs R hl TD e;unfold mV at e;cases e1:ke p node n y vs with
    |none=>rw[e1]at e;exact ihl vs R (fun z hz=>hl z (by simp[hz])) TD e
    |some R'=>rw[e1]at e;cases e;exact ih y vs _ (hl y jE) TD e1
  have sc:∀(l:PY) (vs R:List bH),(∀x∈l,x∈ir p b)->(∀v∈vs,qt p j v)->nS (ke p node n) p node l vs=some R->(∀v∈R,qt p j v)/\js p.aa j<=node.toNat/\node.toNat<=(nth p.aa.av j).body.toNat:=fun l=>by
   induction l with
   |nil=>intro vs R _ _ e;cases e
   |cons x l ihl=>
    intro vs R hx TD e;obtain⟨x0,x1,x2,x3⟩:=hb.aC h (by omega:(0:Int)<=j) jB (hx x jE);have x1:x.toNat<b.toNat:=x1;have x2:js p.aa j<=x.toNat:=by rw[Int.toNat_natCast]at x2;exact x2
    have TP:b.toNat<=(nth p.aa.av j).body.toNat:=by have:=hb.hi;rw[Int.toNat_natCast]at this;exact this
    have Sa:=px h.ok.aa hj;have Ug:x.toNat<p.aa.nodes.length:=by have:=Sa.1;have:=Sa.2;omega
    have Vv:∀v∈kD p x vs,qt p j v:=fun v Qm=>by
     unfold kD at Qm;split at Qm
     ·rename_i k10;rcases List.mem_append.1 Qm with Qm|Qm
      ·exact TD v Qm
      ·rw[List.mem_singleton]at Qm;subst Qm;have k10:(nth p.aa.nodes x.toNat).kind=10:=k10;exact hf.all x.toNat x2 jB (by unfold oV;omega)
     ·exact TD v Qm
    unfold nS at e;split at e
    ·rename_i ex;cases e;rw[<-ex];exact⟨TD,x2,jB⟩
    ·cases e1:(if(aJ p x).kind=15\/(aJ p x).kind=16 then mV (ke p node n) (kD p x vs) ((aJ p x).l.drop 1)else none)with
     |none=>rw[e1]at e;exact ihl _ R (fun y hy=>hx y (by simp[hy])) Vv e
     |some R'=>
      rw[e1]at e;cases e;split at e1
      ·rename_i kb;refine aC _ _ _ (fun y hy=>?_) Vv e1;have Sx:y∈(nth p.aa.nodes x.toNat).l:=List.mem_of_mem_drop hy;have Vw:=(h.ok.aa.shape x.toNat Ug).2.1 y Sx;have QU:=hf.chain.closed x.toNat x2 jB y Sx;exact⟨Vw.1,by rw[Int.toNat_natCast];exact QU,by rw[Int.toNat_natCast];show y.toNat<=_;omega,M9 h.ok Ug kb y hy,Int.le_refl _,by show(0:Int)<=_;omega⟩
      ·cases e1
  exact sc (aJ p b).l vars R (fun x hx=>hx) hv e
theorem DQ{z:Int}:∀(l:List bM) (i:Int),0<=i->i+l.length<=z->∀v∈iT l i,0<=v.slot/\v.slot<z
 |[],i,_,_,v,hv=>by cases hv
 |x::l,i,h0,h1,v,hv=>by
  simp only[List.length_cons]at h1;simp only[iT,List.mem_cons]at hv;rcases hv with rfl|hv
  ·exact⟨h0,by show i<z;omega⟩
  ·exact DQ l (i+1) jB jB v hv
def MI(h:bY p)(Q5:∀k,k<p.aa.nodes.length->0<=nth p.fn k/\nth p.fn k<p.aa.av.length){node:Int}(h1:node.toNat<p.aa.nodes.length){j:Nat}(hj:j<p.aa.av.length)(h2:js p.aa j<=node.toNat)(h3:node.toNat<=(nth p.aa.av j).body.toNat):∀v∈gN p node,qt p j v:=by
 obtain⟨f0,f1⟩:=Q5 _ h1;have Uc:(nth p.fn node.toNat).toNat<p.aa.av.length:=jB;have Sa:=px h.ok.aa Uc;have hf:=h.av _ Uc;unfold gN;cases e:ke p node p.aa.nodes.length (nth p.aa.av (nth p.fn node.toNat).toNat).body (iT (nth p.aa.av (nth p.fn node.toNat).toNat).params 0)with
 |none=>intro v hv;cases hv
 |some R=> obtain⟨a,b,c⟩:=Fp h Uc node _ _ _ R ⟨Sa.1,by rw[Int.toNat_natCast];exact hf.chain.le,by rw[Int.toNat_natCast];exact Nat.le_refl _,h.ok.aa.body _ (dZ Uc),Int.le_refl _,by show(0:Int)<=_;omega⟩ (DQ _ _ (Int.le_refl _) (by have:=hf.wy;omega)) e;rw[Ld h hj Uc h2 h3 b c];exact a
def Cr(h:bY p)(Q5:∀k,k<p.aa.nodes.length->0<=nth p.fn k/\nth p.fn k<p.aa.av.length)(hI:bC p s)(h0:¬bq p s<0):1<=s.ah.length/\(bq p s).toNat<p.aa.nodes.length/\∀v∈gN p (bq p s),0<=v.slot/\v.slot<s.cC.ab.length:=by
 have h2:¬(s.status=2\/s.status=3):=fun hh=>h0 (by unfold bq;rw[if_pos hh];decide)
 have hd:=hI.eF (fun hh=>h2 (.inl hh)) 0 jC;have QF:aW p (RS.of { s with status:=0 }).st=bq p s:=by rw[RS.dt];unfold bq;rw[if_neg h2];rfl
 obtain⟨s0,s1,s2,s3,s4,s5⟩:=hd.stmt h;rw[QF]at s0 s1 s2 s3 s4;have h1:1<=s.ah.length:=hI.inv.go fun e=>h2 (.inl e)
 have hf:dM p s.cC:=hI.inv.fr (s.ah.length-1) (by show s.ah.length-1<s.ah.length;omega);have ht:(RS.of { s with status:=0 }).aF=s.cC:=rfl;rw[ht]at s3 s4 s5;have f0:=hf.f0;have f1:=hf.f1;refine⟨h1,s1,fun v hv=>?_⟩;obtain⟨a,b⟩:=MI h Q5 s1 (j:=s.cC.fn.toNat) jB s3 jB v hv;exact⟨a,by have:=hf.sl;omega⟩
def FT(h:iY p)(Q5:∀k,k<p.aa.nodes.length->0<=nth p.fn k/\nth p.fn k<p.aa.av.length){node:Int}(h1:node.toNat<p.aa.nodes.length):(gN p node).length<=100000:=by
 obtain⟨f0,f1⟩:=Q5 _ h1;have Uc:(nth p.fn node.toNat).toNat<p.aa.av.length:=jB;have ZP:=(h.aa.fn _ (dZ Uc)).2;have hm:=h.aa.many;unfold gN;cases e:ke p node p.aa.nodes.length (nth p.aa.av (nth p.fn node.toNat).toNat).body (iT (nth p.aa.av (nth p.fn node.toNat).toNat).params 0)with
 |none=>exact Nat.zero_le _
 |some R=> have:=Eb (wS h) _ _ _ _ e;rw[vR]at this;show R.length<=_;omega
section
variable {p:ae}(hs:bY p){s:aw}(h:bC p s)(nm:P0)(v:ai)
include hs h
theorem Ou(h0:bq p s<0\/fT v=false\/v.ty=4):aA prog 227 [.agg (bp p),.agg (bv s),rS nm,.agg (bk v)] (.bt [.agg (bv s),rB false]):=by
 have Rm:=sI hs h;have R6:=vh hs h;have Tn:=sD v;generalize bq p s=a at*;by_cases h1:a<0
 ·refine bI func227 ntmps227 ?_
  (have W:=h1;repeat' (first|refine aq fun K hK=>?_|refine am ?_|(with_reducible refine gR 9 ?_);refine dE 9 (au 0 14) mixed ?_|(refine hK _ _ ?_;clear hK K)|(refine ao ?_ ?_<;>intro hc<;>try exact jz)|refine bz 4 ?_|refine bz 0 ?_|refine bz 5 ?_|refine bf 6 ?_|refine cp (Rm) ?_|(refine⟨rB false,?_⟩;refine S ?_)|refine cp (R6) ?_|(refine cn ?_ ?_<;>intro hc<;>try exact jz)|refine ap ?_|exact jI|(clear hK K)))
  (refine aY [.cell 8 39,.tmp 9] ?_;try simp only[go_sem])
 ·have hz:fT v=false\/(fT v=true/\v.ty=4):=by
   rcases h0 with h0|h0|h0
   ·exact(h1 h0).elim
   ·exact .inl h0
   ·cases fT v
    ·exact .inl rfl
    ·exact .inr ⟨rfl,h0⟩
  rcases hz with hz|⟨hz,h4⟩
  ·rw[hz]at Tn;refine bI func227 ntmps227 ?_
   (have W:=h1;repeat' (first|refine aq fun K hK=>?_|refine am ?_|(with_reducible refine gR 9 ?_);refine dE 9 (au 0 14) mixed ?_|(refine hK _ _ ?_;clear hK K)|(refine ao ?_ ?_<;>intro hc<;>try exact jz)|refine bz 4 ?_|refine bz 0 ?_|refine bz 5 ?_|refine bf 6 ?_|refine cp (Rm) ?_|refine cp (Tn) ?_|refine cq (Tn) ?_|refine cp (R6) ?_|(refine cn ?_ ?_<;>intro hc<;>try exact jz)|refine ap ?_|exact jI|(clear hK K)))
   (refine aY [.cell 8 39,.tmp 9] ?_;try simp only[go_sem])
  ·rw[hz]at Tn;refine bI func227 ntmps227 ?_
   (have W:=jA h1 h4;repeat' (first|refine aq fun K hK=>?_|refine am ?_|(with_reducible refine gR 9 ?_);refine dE 9 (au 0 14) mixed ?_|(refine hK _ _ ?_;clear hK K)|(refine ao ?_ ?_<;>intro hc<;>try exact jz)|refine bz 4 ?_|refine bz 0 ?_|refine bz 5 ?_|refine bf 6 ?_|refine cp (Rm) ?_|refine cp (Tn) ?_|refine cq (Tn) ?_|refine cp (R6) ?_|(refine cn ?_ ?_<;>intro hc<;>try exact jz)|refine ap ?_|exact jI|(clear hK K)))
   (refine aY [.cell 8 39,.tmp 9] ?_;try simp only[go_sem])
theorem JE(Q5:∀k,k<p.aa.nodes.length->0<=nth p.fn k/\nth p.fn k<p.aa.av.length)(h0:¬bq p s<0)(hm:fT v=true)(h4:¬v.ty=4)(ZU:lJ nm v.ty (gN p (bq p s)) 0<0):aA prog 227 [.agg (bp p),.agg (bv s),rS nm,.agg (bk v)] (.bt [.agg (bv s),rB false]):=by
 have Rm:=sI hs h;have R6:=vh hs h;have Tn:=sD v;rw[hm]at Tn;obtain⟨h1,hn,_⟩:=Cr hs Q5 h h0;have Yf:=Fs hs.ok Q5 (bq p s) jB hn;have Us:=FT hs.ok Q5 hn;have Qe:=E1 nm v.ty _ 0 ZU;generalize gN p (bq p s)=V at*;generalize bq p s=a at*;refine bI func227 ntmps227 ?_
 (have W:=jA h0 h4;repeat' (first|refine aq fun K hK=>?_|refine am ?_|(with_reducible refine gR 9 ?_);refine dE 9 (au 0 14) mixed ?_|(refine hK _ _ ?_;clear hK K)|(refine ao ?_ ?_<;>intro hc<;>try exact jz)|refine bz 4 ?_|refine bz 0 ?_|refine bz 5 ?_|refine bf 6 ?_|refine cp (Rm) ?_|refine cp (Tn) ?_|refine cq (Tn) ?_|refine cp (Yf) ?_|refine cp (R6) ?_|(refine cn ?_ ?_<;>intro hc<;>try exact jz)|refine ap ?_|exact jI|(clear hK K)))
 have M':=hK;clear hK;refine de (S:=Nat) [(9,1),(12,1),(35,30)] (fun k=>k<=V.length) (fun k=>[(35,rI k)]) (fun k=>⟨[],[(4,.var 29 (bp p)),(0,.var 39 (bv s)),(5,.var 50 (bk v)),(6,.var 39 [.raw (.slice none 0 0),.raw (.slice none 0 0),rI 0,.raw (.slice none 0 0),rI 0,rI 0,rI 0])]⟩) (fun k=>V.length-k) 0 (Nat.zero_le _) (dc rfl bK) ?_;rintro k hk Kr P9;by_cases Qd:k<V.length
 ·have QD:=Qe k Qd;have hE:∃b:Bool,b=false/\True:=⟨false,rfl,trivial⟩;by_cases c1:(nth V k).name=nm
  ·have c2:¬(nth V k).ty=v.ty:=fun e=>QD ⟨c1,e⟩
   refine S ?_
   (have W:=jA c1 c2;repeat' (first|refine aq fun K hK=>?_|refine am ?_|(with_reducible refine gR 9 ?_);refine dE 9 (au 0 14) mixed ?_|(refine hK _ _ ?_;clear hK K)|(refine ao ?_ ?_<;>intro hc<;>try exact jz)|refine bf 7 ?_|refine M' _ _ ?_|(refine cn ?_ ?_<;>intro hc<;>try exact jz)|refine ap ?_|exact jI|(clear hK K)))
   refine P9 _ _ (oP [7] (k+1) jB (by show V.length-(k+1)<V.length-k;omega) rfl Sd rfl gJ)
  ·(refine S ?_;try exact jI)
   (have W:=c1;repeat' (first|refine aq fun K hK=>?_|refine am ?_|(with_reducible refine gR 9 ?_);refine dE 9 (au 0 14) mixed ?_|(refine hK _ _ ?_;clear hK K)|(refine ao ?_ ?_<;>intro hc<;>try exact jz)|refine bf 7 ?_|refine M' _ _ ?_|(refine cn ?_ ?_<;>intro hc<;>try exact jz)|refine ap ?_|exact jI|(clear hK K)))
   refine P9 _ _ (oP [7] (k+1) jB (by show V.length-(k+1)<V.length-k;omega) rfl Sd rfl gJ)
 ·have RT:k=V.length:=jB;subst RT;refine S ?_
  (repeat' (first|refine aq fun K hK=>?_|refine am ?_|(with_reducible refine gR 9 ?_);refine dE 9 (au 0 14) mixed ?_|(refine hK _ _ ?_;clear hK K)|(refine ao ?_ ?_<;>intro hc<;>try exact jz)|refine M' _ _ ?_|(refine cn ?_ ?_<;>intro hc<;>try exact jz)|refine ap ?_|exact jI|(clear hK K)))
  (refine aY [.cell 8 39,.tmp 9] ?_;try simp only[go_sem])
theorem N4(Q5:∀k,k<p.aa.nodes.length->0<=nth p.fn k/\nth p.fn k<p.aa.av.length)(h0:¬bq p s<0)(hm:fT v=true)(h4:¬v.ty=4)(k0:Nat)(Ql:k0<(gN p (bq p s)).length)(QF:(nth (gN p (bq p s)) k0).name=nm/\(nth (gN p (bq p s)) k0).ty=v.ty)(Qe:∀j,j<k0->¬((nth (gN p (bq p s)) j).name=nm/\(nth (gN p (bq p s)) j).ty=v.ty)) :
  aA prog 227 [.agg (bp p),.agg (bv s),rS nm,.agg (bk v)] (.bt [.agg (bv (ig s (nth (gN p (bq p s)) k0).slot.toNat v)),rB true]):=by
 have Rm:=sI hs h;have TE:=bC.own hs h;have Tn:=sD v;rw[hm]at Tn;obtain⟨h1,hn,QH⟩:=Cr hs Q5 h h0;have Yf:=Fs hs.ok Q5 (bq p s) jB hn;have Us:=FT hs.ok Q5 hn;obtain⟨Tm,VN⟩:=QH _ (dZ Ql);have hf8:s.ah.length<=8:=h.inv.ak;generalize gN p (bq p s)=V at*;generalize bq p s=a at*;have W3:(RS.of s).nf-1<(RS.of s).ak.length:=by show s.ah.length-1<s.ah.length;omega
 have Qy:(RS.of s).nf=s.ah.length:=rfl;have RN:(RS.of s).ak.length=s.ah.length:=rfl;have J':nth (RS.of s).ak ((RS.of s).nf-1)=s.cC:=rfl;have TA:∀i,aB ((RS.of s).cI [(4,.var 29 (bp p)),(0,.var 39 (RS.of s).c),(5,.var 50 (bk v)),(6,.var 39 [.raw (.slice none 0 0),.raw (.slice none 0 0),rI 0,.raw (.slice none 0 0),rI 0,rI 0,rI 0])]) i=aB ((RS.of s).e 39 [] [] [(4,.var 29 (bp p)),(5,.var 50 (bk v)),(6,.var 39 [.raw (.slice none 0 0),.raw (.slice none 0 0),rI 0,.raw (.slice none 0 0),rI 0,rI 0,rI 0])]) i:=RS.kc rfl rfl fun i hi=>by simp only[aB,if_neg hi]
 refine bI func227 ntmps227 ?_
 (have W:=jA h0 h4;repeat' (first|refine aq fun K hK=>?_|refine am ?_|(with_reducible refine gR 9 ?_);refine dE 9 (au 0 14) mixed ?_|(refine hK _ _ ?_;clear hK K)|(refine ao ?_ ?_<;>intro hc<;>try exact jz)|refine bz 4 ?_|refine bz 0 ?_|refine bz 5 ?_|refine bf 6 ?_|refine cp (Rm) ?_|refine cp (Tn) ?_|refine cq (Tn) ?_|refine cp (Yf) ?_|(refine LL (R:=RS.of s) TE rfl (fun i r hi=>by simp only[aB]at hi;(repeat' split at hi)<;>first|omega|cases hi) rfl jD ?_;try refine S ?_)|(refine cn ?_ ?_<;>intro hc<;>try exact jz)|refine ap ?_|exact jI|(clear hK K)))
 refine gj (cY.perm _ TA) ?_;have M':=hK;clear hK;refine de (S:=Nat) [(9,1),(12,1),(35,30)] (fun k=>k<=k0) (fun k=>[(35,rI k)]) (fun k=>⟨[],(RS.of s).e 39 [] [] [(4,.var 29 (bp p)),(5,.var 50 (bk v)),(6,.var 39 [.raw (.slice none 0 0),.raw (.slice none 0 0),rI 0,.raw (.slice none 0 0),rI 0,rI 0,rI 0])]⟩) (fun k=>k0-k) 0 (Nat.zero_le _) (dc rfl bK) ?_;rintro k hk Kr P9;by_cases Qd:k<k0
 ·have QD:=Qe k Qd;have Rc:k<V.length:=jB;by_cases c1:(nth V k).name=nm
  ·have c2:¬(nth V k).ty=v.ty:=fun e=>QD ⟨c1,e⟩
   refine S ?_
   (have W:=jA c1 (jA c2 (Rc));repeat' (first|refine aq fun K hK=>?_|refine am ?_|(with_reducible refine gR 9 ?_);refine dE 9 (au 0 14) mixed ?_|(refine hK _ _ ?_;clear hK K)|(refine ao ?_ ?_<;>intro hc<;>try exact jz)|refine bf 7 ?_|refine M' _ _ ?_|(refine cn ?_ ?_<;>intro hc<;>try exact jz)|refine ap ?_|exact jI|(clear hK K)))
   refine P9 _ _ (Gk (R':=RS.of s) (pre:=[]) (post:=[]) (k+1) [(4,.var 29 (bp p)),(5,.var 50 (bk v)),(6,.var 39 [.raw (.slice none 0 0),.raw (.slice none 0 0),rI 0,.raw (.slice none 0 0),rI 0,rI 0,rI 0])] 7 (.var 179 (jQ (nth V k))) jB (by show k0-(k+1)<k0-k;omega) rfl rfl jB rfl rfl rfl (fun i r hi=>?_) (by simp[ids]));simp only[aB]at hi;repeat' split at hi
   all_goals first|(cases hi;rfl)|cases hi
  ·(refine S ?_;try exact jI)
   (have W:=jA c1 Rc;repeat' (first|refine aq fun K hK=>?_|refine am ?_|(with_reducible refine gR 9 ?_);refine dE 9 (au 0 14) mixed ?_|(refine hK _ _ ?_;clear hK K)|(refine ao ?_ ?_<;>intro hc<;>try exact jz)|refine bf 7 ?_|refine M' _ _ ?_|(refine cn ?_ ?_<;>intro hc<;>try exact jz)|refine ap ?_|exact jI|(clear hK K)))
   refine P9 _ _ (Gk (R':=RS.of s) (pre:=[]) (post:=[]) (k+1) [(4,.var 29 (bp p)),(5,.var 50 (bk v)),(6,.var 39 [.raw (.slice none 0 0),.raw (.slice none 0 0),rI 0,.raw (.slice none 0 0),rI 0,rI 0,rI 0])] 7 (.var 179 (jQ (nth V k))) jB (by show k0-(k+1)<k0-k;omega) rfl rfl jB rfl rfl rfl (fun i r hi=>?_) (by simp[ids]));simp only[aB]at hi;repeat' split at hi
   all_goals first|(cases hi;rfl)|cases hi
 ·have RT:k=k0:=jB;subst RT;obtain⟨c1,c2⟩:=QF;rw[<-J']at VN;have YB:(nth V k).slot.toNat<(nth (RS.of s).ak ((RS.of s).nf-1)).ab.length:=jB;refine S ?_
  (have W:=jA c1 (jA c2 (jA Ql (jA Tm (jA VN (YB)))));repeat' (first|refine aq fun K hK=>?_|refine am ?_|(with_reducible refine gR 9 ?_);refine dE 9 (au 0 14) mixed ?_|(refine hK _ _ ?_;clear hK K)|(refine ao ?_ ?_<;>intro hc<;>try exact jz)|refine bf 7 ?_|refine M' _ _ ?_|(refine cn ?_ ?_<;>intro hc<;>try exact jz)|refine ap ?_|exact jI|(clear hK K)))
  have hj:∀j,(if j=(RS.of s).nf-1 then Row.aG 50 3 ((List.map bk (nth (RS.of s).ak ((RS.of s).nf-1)).ab).set (nth V k).slot.toNat (bk v++List.drop 3 (bk (nth (nth (RS.of s).ak ((RS.of s).nf-1)).ab (nth V k).slot.toNat))))else Row.aG 50 3 (List.map bk (nth (RS.of s).ak j).ab))=if j=(RS.of s).nf-1 then .aG 50 3 (((nth (RS.of s).ak ((RS.of s).nf-1)).ab.set (nth V k).slot.toNat v).map bk)else(RS.of s).sl j:=fun j=>by
   by_cases e:j=(RS.of s).nf-1
   ·rw[if_pos e,if_pos e,List.map_set];rfl
   ·rw[if_neg e,if_neg e];rfl
  have hE:=RS.iq (t:=39) (pre:=[]) (post:=[]) (R:=RS.of s) (k:=(RS.of s).nf-1) (tl:=[(4,.var 29 (bp p)),(5,.var 50 (bk v)),(6,.var 39 (RS.of s).c),(7,.var 179 (jQ (nth V k)))]) W3 (l:=(nth (RS.of s).ak ((RS.of s).nf-1)).ab.set (nth V k).slot.toNat v) (List.length_set ..) (c0:=(RS.of s).c) jE hj;have hO:=RS.kM s;have e2:ig s (nth V k).slot.toNat v=((RS.of s).dY ((RS.of s).nf-1) { nth (RS.of s).ak ((RS.of s).nf-1)with ab:=(nth (RS.of s).ak ((RS.of s).nf-1)).ab.set (nth V k).slot.toNat v }).st:=by unfold ig RS.st RS.dY;rw[J'];show _=(⟨(s.ah.set (s.ah.length-1) _).take s.ah.length,s.heap,s.in_,s.aS,s.status,s.bL,s.time⟩:aw);rw[List.take_of_length_le jE]
  have hv:=RS.qo (t:=39) (pre:=[]) (post:=[]) (R:=(RS.of s).dY ((RS.of s).nf-1) { nth (RS.of s).ak ((RS.of s).nf-1)with ab:=(nth (RS.of s).ak ((RS.of s).nf-1)).ab.set (nth V k).slot.toNat v }) (B:=[]) (tl:=[(4,.var 29 (bp p)),(5,.var 50 (bk v)),(6,.var 39 (RS.of s).c),(7,.var 179 (jQ (nth V k)))]) (D:=fun _=>true) ⟨by rw[<-RS.aT];exact hO.nf,hO.jp.trans RS.aT⟩ fun _=>rfl
  rw[RS.l6,<-e2]at hv;refine oO [.cell 8 39,.tmp 9] (congrArg (Hp.mk []) hE) ?_;refine bc.bt (ds:=[.agg (bv (ig s (nth V k).slot.toNat v)),rB true]) ⟨bc.agg (ds:=bv (ig s (nth V k).slot.toNat v)) ?_,.same _ rfl,jI⟩;exact(congrArg (fun l=>bc (fun _=>true) (Hp.mk [] l) (RS.of s).c (bv (ig s (nth V k).slot.toNat v))) hE).mpr hv
end
structure IS(p:ae)(inp:List Int)(s:aw):Prop where
 eb:gh p 100000 s
 q:yb inp s
def dz(s:aw):Int:=s.time
def fu(p:ae)(inp:PY)(s:aw):aw:=dO p s inp
def rh(p:ae)(inp:PY):Nat->aw->aw
 |0,s=>s
 |n+1,s=>rh p inp n (fu p inp s)
def kE(p:ae)(inp:PY)(E:List ba)(t:Int):aw×Nat×Bool:=dD dz (fu p inp) (br p) E t ((t-dz (dx p)).toNat+1) (dx p) 0 false
def er(p:ae)(inp:PY)(E:List ba)(t:Int):aw×Int:=((kE p inp E (dB t)).1,kg E (dB t) (kE p inp E (dB t)))
section
variable {p:ae}(hs:bY p){inp:PY}(hn:inp.length<=1000)(hi:∀x∈inp,bn x){E:List ba}(hE:∀k,k<E.length->bn (nth E k).v.n)
include hs hn hi
theorem qz:IS p inp (dx p)/\(dx p).time=0:=by have h:=BU hs;exact⟨⟨⟨h.inv,h.bn,h.t0,Int.le_trans h.t1 jC⟩,IP hs inp⟩,Int.le_antisymm h.t1 h.t0⟩
theorem v7{s:aw}(h:IS p inp s)(ht:s.time<200):IS p inp (fu p inp s)/\(dz (fu p inp s)=dz s\/dz (fu p inp s)=dz s+1):=by have g:=yv hs h.eb hn hi;have hf:=ET hs h.eb hn h.q;have e:=@Cj p s inp;refine⟨⟨⟨g.inv,g.bn,g.t0,?_⟩,hf.1⟩,e⟩;show(dO p s inp).time<=((100000:Nat):Int);omega
include hE
theorem p6:jj dz (fu p inp) (br p) E (IS p inp):=by
 refine⟨fun s k s' h hk e=>?_,fun s h ht=>v7 hs hn hi h ht,fun s h=>h.eb.t0⟩;obtain⟨a,b,_,c⟩:=HH h.eb (hE k hk) e;refine⟨⟨a,?_⟩,b⟩;unfold br at e;split at e
 ·cases e
 split at e
 ·cases e
 cases e;have hl:(ig s (nth (gN p (bq p s)) (lJ (nth E k).name (nth E k).v.ty (gN p (bq p s)) 0).toNat).slot.toNat (nth E k).v).ah.length=s.ah.length:=List.length_set;exact⟨h.q.s0,h.q.s3,fun e=>hl.trans (h.q.none e),h.q.bL,h.q.jd⟩
theorem L7{t:Int}(h0:0<=t)(h1:t<=200):0<=(er p inp E t).2/\(er p inp E t).2<=E.length/\((er p inp E t).2≠0->er p inp (E.take ((er p inp E t).2-1).toNat) t=((er p inp E t).1,0)/\((er p inp E t).2-1).toNat<E.length/\(nth E ((er p inp E t).2-1).toNat).at_<=t):=by
 have ec:dB t=t:=by unfold dB;omega
 obtain⟨a,b⟩:=qz hs hn hi;have J':dz (dx p)<=t:=by show(dx p).time<=t;omega
 have hk:=vO (p6 hs hn hi hE) h1 ((t-dz (dx p)).toNat+1) (dx p) 0 false a J' (Nat.zero_le _);have SS:=fun{K:Nat} (hK:K<=E.length)=>Bm (tm:=dz) (st:=fu p inp) (se:=br p) (E:=E) hK (t:=t) ((t-dz (dx p)).toNat+1) (dx p) 0 false false (Nat.zero_le _) (fun _=>rfl)
 unfold er;rw[ec];simp only;unfold kE;generalize hF:dD dz (fu p inp) (br p) E t ((t-dz (dx p)).toNat+1) (dx p) 0 false=F at*;unfold kg;by_cases c:F.2.1<E.length/\(nth E F.2.1).at_<=t
 ·rw[if_pos c];have e:((F.2.1:Int)+1-1).toNat=F.2.1:=jB;refine⟨jB,jB,fun _=>?_⟩;rw[e];obtain⟨h2,h3⟩:=SS (K:=F.2.1) jB jl;refine⟨?_,c⟩;rw[h2,h3,if_neg (fun h=>by have:=h.1;rw[List.length_take]at this;omega)]
 ·rw[if_neg c];exact⟨Int.le_refl _,jB,fun h=>(h rfl).elim⟩
omit hE
theorem CD{x y:ba}(ha:y.at_=x.at_)(Qx:y.name=x.name)(Sy:y.v.ty=x.v.ty)(hx:bn x.v.n){t:Int}(h0:0<=t)(h1:t<=200)(hz:(er p inp [x] t).2=0)(WT:(er p inp [y,x] t).2=0\/y=x):er p inp [y,x] t=((er p inp [x] t).1,0):=by
 have ec:dB t=t:=by unfold dB;omega
 obtain⟨a,b⟩:=qz hs hn hi;have J':dz (dx p)<=t:=by show(dx p).time<=t;omega
 have Rp:∀s u,IS p inp s->br p s y.name y.v=some u->dz u=dz s/\br p u x.name x.v=br p s x.name x.v:=fun s u h e=>by
  have h1:1<=s.ah.length:=h.eb.inv.inv.go fun e2=>by unfold br at e;rw[if_pos (.inl (by unfold bq;rw[if_pos (.inl e2)];decide))]at e;cases e
  rw[Qx]at e;refine⟨?_,?_⟩
  ·unfold br at e;split at e
   ·cases e
   split at e
   ·cases e
   cases e;rfl
  ·by_cases hm:fT x.v=true
   ·exact(H4 h.eb Sy hm e).1
   ·have hf:fT x.v=false:=by cases hh:fT x.v;rfl;exact(hm hh).elim
    unfold br;rw[if_pos (.inr (.inl hf)),if_pos (.inr (.inl hf))]
 unfold er at hz WT ⊢;rw[ec]at hz WT ⊢;have Uo:∀k,k < [x].length->bn (nth [x] k).v.n:=fun k hk=>by
  have:k=0:=by simpa using hk
  subst this;exact hx
 have:=Ex (p6 hs hn hi Uo) ha Rp h1 ((t-dz (dx p)).toNat+1) (dx p) a J' hz (WT.elim .inl fun e=>.inr fun s u _ h=>⟨u,by rw[e];exact h⟩);exact Prod.ext this.1.symm this.2
theorem Is{s:aw}(h:IS p inp s)(e:dz (fu p inp s)=dz s):fu p inp (fu p inp s)=fu p inp s:=by
 have e:(dO p s inp).time=s.time:=e;show dO p (dO p s inp) inp=dO p s inp;rcases wA hs h.eb.inv hn with⟨a,b⟩|⟨a,b,c⟩|⟨a,b,c,d⟩
 ·rw[b,b]
 ·have h0:=wZ hs h.eb.inv a;rw[c];have e1:=K2 p s a 1 (.inr rfl);unfold dO;rw[e1,if_neg h0,if_pos (by exact b)]
 ·omega
theorem Jp{n:Nat}(h1:n<=200):er p inp [] n=(oz p inp n,0):=by
 have ec:dB (n:Int)=n:=by unfold dB;omega
 obtain⟨a,b⟩:=qz hs hn hi;have ZV:∀(m:Nat) (s:aw),IS p inp s->dz s=(n:Int)-m->m<=n->qL dz (fu p inp) n (m+1) s=rh p inp m s:=fun m=>by
  induction m with
  |zero=> intro s _ e _;unfold qL;rw[jP];rfl
  |succ m ih=>
   intro s h e hm;unfold qL;rw[jN];have h2:=v7 hs hn hi h (by show dz s<200;omega);split
   ·rename_i he;have hf:∀j,rh p inp j (fu p inp s)=fu p inp s:=fun j=>by
     induction j with
     |zero=>rfl
     |succ j ihj=>show rh p inp j (fu p inp (fu p inp s))=_;rw[Is hs hn hi h he];exact ihj
    exact(hf m).symm
   ·rename_i he;exact ih _ h2.1 jB jB
 have hr:∀(m:Nat) (s:aw),rh p inp (m+1) s=fu p inp (rh p inp m s):=fun m=>by
  induction m with
  |zero=>intro s;rfl
  |succ m ih=>intro s;exact ih (fu p inp s)
 have C':∀m:Nat,rh p inp m (dx p)=oz p inp m:=fun m=>by
  induction m with
  |zero=>rfl
  |succ m ih=>rw[hr,ih];rfl
 unfold er;rw[ec];have e0:dz (dx p)=0:=b;have e1:kE p inp [] n=(oz p inp n,0,false):=by unfold kE;rw[yF (.inr (Nat.le_refl 0)),e0,show((n:Int)-0).toNat=n from jB,ZV n (dx p) a jB jl,C']
 rw[e1];unfold kg;rw[if_neg (fun h=>absurd h.1 (Nat.not_lt_zero _))]
end
def ri(hs:bY p)(hn:inp.length<=1000)(hi:∀x∈inp,bn x){E:List ba}(hE:∀k,k<E.length->bn (nth E k).v.n)(t:Int):IS p inp (er p inp E t).1:=by
 obtain⟨a,b⟩:=qz hs hn hi;have J':dz (dx p)<=dB t:=by show(dx p).time<=_;unfold dB;omega
 exact(vO (p6 hs hn hi hE) (by unfold dB;omega) ((dB t-dz (dx p)).toNat+1) (dx p) 0 false a J' (Nat.zero_le _)).1
section
variable {p:ae}(hs:bY p){inp:PY}(hn:inp.length<=1000)(hi:∀x∈inp,bn x){E:List ba}(hE:∀k,k<E.length->bn (nth E k).v.n)
include hs hn hi hE
theorem IM{t:Int}(h0:0<=t)(h1:t<=200)(ho:vP E):er p inp (gz E t) t=er p inp E t:=by
 have ec:dB t=t:=by unfold dB;omega
 obtain⟨a,b⟩:=qz hs hn hi;have J':dz (dx p)<=t:=by show(dx p).time<=t;omega
 obtain⟨K,h2,h3,h4⟩:=Gl (t:=t) E ho;have P':=BP (p6 hs hn hi hE) h1 h4 ((t-dz (dx p)).toNat+1) (dx p) 0 false a J' (Nat.zero_le _);obtain⟨g1,g2⟩:=Bm (tm:=dz) (st:=fu p inp) (se:=br p) (E:=E) h2 (t:=t) ((t-dz (dx p)).toNat+1) (dx p) 0 false false (Nat.zero_le _) (fun _=>rfl) P';unfold er;rw[ec,h3];unfold kE;generalize dD dz (fu p inp) (br p) E t ((t-dz (dx p)).toNat+1) (dx p) 0 false=F at*;generalize dD dz (fu p inp) (br p) (E.take K) t ((t-dz (dx p)).toNat+1) (dx p) 0 false=G at*;refine Prod.ext g1 ?_;show kg _ _ _=kg _ _ _;unfold kg;rw[g2];have hl:(E.take K).length=K:=by rw[List.length_take];omega
 by_cases c:F.2.1<K
 ·rw[hl,uf c];by_cases d:(nth E F.2.1).at_<=t
  ·rw[if_pos ⟨c,d⟩,if_pos ⟨jB,d⟩]
  ·rw[if_neg (fun h=>d h.2),if_neg (fun h=>d h.2)]
 ·rw[if_neg (fun h=>c (by rw[<-hl];exact h.1)),if_neg (fun h=>by have:=h4 F.2.1 jB h.1;have:=h.2;omega)]
theorem Fo{s:aw}(h:IS p inp s){m:Nat}(h0:(dO p s inp).status≠1)(hm:(dO p s inp).in_<=m):dO p s (inp.take m)=dO p s inp:=by
 rcases wA hs h.eb.inv hn with⟨a,b⟩|⟨a,b,c⟩|⟨a,b,c,d⟩
 ·have e:bq p s<0:=by unfold bq;rw[if_pos a];decide
  unfold dO;rw[if_pos e,if_pos e]
 ·rw[c]at h0;exact(h0 rfl).elim
 ·have YL:=wZ hs h.eb.inv a;have YM:¬ik p s (bq p s) (inp.take m):=fun⟨a1,a2,a3⟩=>by
   have Qd:s.in_<inp.length:=by apply Classical.byContradiction;intro hh;exact b ⟨a1,a2,jB⟩
   have:=(OJ hs h.eb.inv hn a a1 a2 Qd).2;rw[List.length_take]at a3;have:=h.eb.inv.iS;omega
  have hd:(RS.of { s with status:=0 }).bF p (bq p s) (inp.take m)=(RS.of { s with status:=0 }).bF p (bq p s) inp:=by
   unfold RS.bF;simp only;by_cases e:(aJ p (bq p s)).kind=10\/(aJ p (bq p s)).kind=11
   rotate_left
   ·rw[if_neg e,if_neg e]
   rw[if_pos e,if_pos e];unfold RS.right;simp only;by_cases e1:(aJ p (nth (aJ p (bq p s)).l 0)).kind=21
   ·rw[if_pos e1,if_pos e1]
   rw[if_neg e1,if_neg e1];by_cases e2:(aJ p (nth (aJ p (bq p s)).l 0)).kind=19
   ·rw[if_pos e2,if_pos e2];have Ra:s.in_<((inp.take m).length:Int):=by
     apply Classical.byContradiction;intro hh;exact YM ⟨e,e2,jB⟩
    rw[List.length_take]at Ra;have:=h.eb.inv.iS;have Tb:(RS.of { s with status:=0 }).in_=s.in_:=rfl;rw[Tb,uf jB]
   ·rw[if_neg e2,if_neg e2]
  unfold dO;rw[if_neg YL,if_neg YL,if_neg b,if_neg YM,hd]
theorem EH{m:Nat}:∀(n:Nat) (s:aw) (k:Nat) (b:Bool),(bV dz (br p) E n s k b).1.in_=s.in_/\(bV dz (br p) E n s k b).1.status=s.status
 |0,s,k,b=>⟨rfl,rfl⟩
 |n+1,s,k,b=>by
  unfold bV;split
  ·split
   ·rename_i s' e;obtain⟨a1,a2⟩:=EH (m:=m) n s' (k+1) false;have e2:s'.in_=s.in_/\s'.status=s.status:=by
     unfold br at e;split at e
     ·cases e
     split at e
     ·cases e
     cases e;exact⟨rfl,rfl⟩
    exact⟨a1.trans e2.1,a2.trans e2.2⟩
   ·exact⟨rfl,rfl⟩
  ·exact⟨rfl,rfl⟩
theorem FH{t:Int}(h1:t<=200):∀(n:Nat) (s:aw) (k:Nat) (b:Bool),IS p inp s->dz s<=t->s.in_<=(dD dz (fu p inp) (br p) E t n s k b).1.in_
 |0,s,k,b,_,_=>Int.le_refl _
 |n+1,s,k,b,h,ht=>by
  obtain⟨a1,a2,_⟩:=rK (p6 hs hn hi hE) (E.length+1) s k b h;obtain⟨b1,b2⟩:=EH hs hn hi hE (m:=0) (E.length+1) s k b;unfold dD;generalize bV dz (br p) E (E.length+1) s k b=Q at*;split
  ·omega
  have hf:=(ET hs a1.eb hn a1.q).2.i0;have hf:Q.1.in_<=(fu p inp Q.1).in_:=hf;split
  ·show s.in_<=(fu p inp Q.1).in_;omega
  ·obtain⟨c1,c2⟩:=v7 hs hn hi a1 (by show dz Q.1<200;omega);have:=FH h1 n _ Q.2.1 Q.2.2 c1 jB;omega
theorem B5{t:Int}(h1:t<=200){m:Nat}:∀(n:Nat) (s:aw) (k:Nat) (b:Bool),IS p inp s->dz s<=t->(dD dz (fu p inp) (br p) E t n s k b).1.status=0->(dD dz (fu p inp) (br p) E t n s k b).1.in_<=m->dD dz (fu p (inp.take m)) (br p) E t n s k b=dD dz (fu p inp) (br p) E t n s k b
 |0,s,k,b,_,_,_,_=>rfl
 |n+1,s,k,b,h,ht,h2,h3=>by
  obtain⟨a1,a2,_⟩:=rK (p6 hs hn hi hE) (E.length+1) s k b h;unfold dD at h2 h3 ⊢;generalize bV dz (br p) E (E.length+1) s k b=Q at*;by_cases c:dz Q.1=t
  ·rw[if_pos c,if_pos c]
  rw[if_neg c]at h2 h3 ⊢;rw[if_neg c];obtain⟨c1,c2⟩:=v7 hs hn hi a1 (by show dz Q.1<200;omega);by_cases d:dz (fu p inp Q.1)=dz Q.1
  ·rw[if_pos d]at h2 h3;have h2:(dO p Q.1 inp).status=0:=h2;have e:fu p (inp.take m) Q.1=fu p inp Q.1:=Fo hs hn hi hE a1 jB h3;rw[e,if_pos d,if_pos d]
  ·rw[if_neg d]at h2 h3;have Ra:=FH hs hn hi hE h1 n _ Q.2.1 Q.2.2 c1 jB;have h4:(dO p Q.1 inp).status≠1:=by
    have d:(dO p Q.1 inp).time≠Q.1.time:=d;rcases wA hs a1.eb.inv hn with⟨a,b⟩|⟨a,b,c⟩|⟨a,b,c,d'⟩
    ·rw[b]at d;exact(d rfl).elim
    ·rw[c]at d;exact(d rfl).elim
    ·exact c
   have e:fu p (inp.take m) Q.1=fu p inp Q.1:=Fo hs hn hi hE a1 h4 (Int.le_trans Ra h3);rw[e,if_neg d,if_neg d];exact B5 h1 n _ Q.2.1 Q.2.2 c1 jB h2 h3
theorem Ki{t:Int}(h0:0<=t)(h1:t<=200)(hz:(er p inp E t).1.status=0):er p (inp.take (er p inp E t).1.in_.toNat) E t=er p inp E t:=by
 have ec:dB t=t:=by unfold dB;omega
 obtain⟨a,b⟩:=qz hs hn hi;have J':dz (dx p)<=t:=by show(dx p).time<=t;omega
 have hk:=vO (p6 hs hn hi hE) h1 ((t-dz (dx p)).toNat+1) (dx p) 0 false a J' (Nat.zero_le _);have hz:(kE p inp E (dB t)).1.status=0:=hz;rw[ec]at hz;have Ra:=hk.1.eb.inv.iS;have:=B5 hs hn hi hE h1 (m:=(kE p inp E t).1.in_.toNat) ((t-dz (dx p)).toNat+1) (dx p) 0 false a J' hz (by show(kE p inp E t).1.in_<=_;have Ra:0<=(kE p inp E t).1.in_:=Ra;omega);unfold er;rw[ec];have e:kE p (inp.take (kE p inp E t).1.in_.toNat) E t=kE p inp E t:=this;show((kE p (inp.take (kE p inp E t).1.in_.toNat) E t).1,_)=_;rw[e]
end
def Mx(p:ae)(inp:PY)(E:List ba)(t:Int):er p inp E (dB t)=er p inp E t:=by
 have:dB (dB t)=dB t:=by unfold dB;omega
 unfold er;rw[this]
def IJ(hs:bY p)(hn:inp.length<=1000)(hi:∀x∈inp,bn x){E:List ba}(hE:∀k,k<E.length->bn (nth E k).v.n){t:Int}(h0:0<=t)(h1:t<200)(Qe:∀k,k<E.length->(nth E k).at_≠t+1) :
  ((er p inp E t).1.time<t->(er p inp E (t+1)).1=(er p inp E t).1)/\(¬(er p inp E t).1.time<t->(er p inp E (t+1)).1=dO p (er p inp E t).1 inp):=by
 have ec:dB t=t:=by unfold dB;omega
 have ec2:dB (t+1)=t+1:=by unfold dB;omega
 obtain⟨a,b⟩:=qz hs hn hi;have e0:dz (dx p)=0:=b;have:=FA (p6 hs hn hi hE) h1 Qe ((t-dz (dx p)).toNat+1) (dx p) 0 false a jB jB;unfold er;rw[ec,ec2];unfold kE;rw[show(t+1-dz (dx p)).toNat+1=(t-dz (dx p)).toNat+1+1 from jB];exact this
@[go_sem] def j4E:(∀(s:aw) (x:AV),List.take 7 (bv s++[x])=bv s)/\(∀(s:aw) (x:AV),List.drop 7 (bv s++[x])=[x]):=by and_intros<;>(intros;rfl)
def fQ(p:ae)(inp:PY)(s:aw):PV:=[(hn 9 0,.var 82 (aK p++(bv s++[ax eI 1 inp])))]
section
variable {p:ae}{inp:PY}{s:aw}
def j7:ki 0 (fQ p inp s):=by
 refine⟨fun i _ h=>?_,by simp[fQ,ids],fun i r h=>?_⟩
 ·show(if i=hn 9 0 then _ else _)=_;rw[if_neg (by have:=xV 9 0;omega)];rfl
 ·have h:(if i=hn 9 0 then some (Row.var 82 (aK p++(bv s++[ax eI 1 inp])))else none)=some r:=h;split at h
  ·cases h;rfl
  ·cases h
def u5:aB (fQ p inp s) (hn 9 0)=some (.var 82 (aK p++(bv s++[ax eI 1 inp]))):=by show(if hn 9 0=hn 9 0 then _ else _)=_;rw[if_pos rfl]
variable{s':aw}
def zh:∀i,aB (fQ p inp s) i≠none->aB (fQ p inp s') i≠none:=fun i h=>by
 have h:(if i=hn 9 0 then some (Row.var 82 (aK p++(bv s++[ax eI 1 inp])))else none)≠none:=h;show(if i=hn 9 0 then some _ else none)≠none;split at h
 ·rename_i e;rw[if_pos e];simp
 ·exact(h rfl).elim
def Le:nJ prog 226 [.pt (hn 9 0) 0 0 0] (fQ p inp s) (rI s.time) (fQ p inp s):=by
 refine⟨?_,j7,j7,fun _ h=>h,by simp[aU,AV.all,fQ,ids]⟩;have QU:=(j7 (p:=p) (inp:=inp) (s:=s)).low;have hg:=u5 (p:=p) (inp:=inp) (s:=s);have k1:=j7 (p:=p) (inp:=inp) (s:=s);generalize fQ p inp s=e at*;refine aO (L:=ids e) func226 ntmps226 ?_ (hL:=rfl);generalize hB:ids e=B;refine vJ ?_
 (have W:=jA QU hg;repeat' (first|refine aq fun K hK=>?_|refine am ?_|(refine hK _ _ ?_;clear hK K)|(refine ao ?_ ?_<;>intro hc<;>try exact jz)|refine ap ?_|exact jI|(clear hK K)))
 exact tZ hB k1 k1 (tl:=[]) (fun _=>rfl) pK [.tmp 2]
def Pd(J':aA prog 228 [.agg (bp p),.agg (bv s),ax eI 1 inp] (.agg (bv s'))):nJ prog 225 [.pt (hn 9 0) 0 0 0] (fQ p inp s) (.bt []) (fQ p inp s'):=by
 refine⟨?_,j7,j7,zh,by simp[aU,AV.all,fQ,ids]⟩;have QU:=(j7 (p:=p) (inp:=inp) (s:=s)).low;have hg:=u5 (p:=p) (inp:=inp) (s:=s);have k1:=j7 (p:=p) (inp:=inp) (s:=s);have k2:=j7 (p:=p) (inp:=inp) (s:=s');have hl:∀i,aB (eD (fQ p inp s) (hn 9 0) (.var 82 (aK p++(bv s'++[ax eI 1 inp])))) i=aB (fQ p inp s') i:=fun i=>by
  rw[nD];show _=if i=hn 9 0 then _ else _
  split
  ·rfl
  ·rename_i h;show(if i=hn 9 0 then _ else _)=_;rw[if_neg h]
 rw[Aw]at J';simp only[aK]at J';generalize fQ p inp s'=e' at*;generalize fQ p inp s=e at*;refine aO (L:=ids e) func225 ntmps225 ?_ (hL:=rfl);generalize hB:ids e=B;refine vJ ?_
 (have W:=jA QU hg;repeat' (first|refine aq fun K hK=>?_|refine am ?_|(with_reducible refine gR 0 ?_);refine dE 0 (au 0 17) mixed ?_|(refine hK _ _ ?_;clear hK K)|(refine ao ?_ ?_<;>intro hc<;>try exact jz)|refine cp (J') ?_|refine ap ?_|exact jI|(clear hK K)))
 exact tZ (l:=e') hB k1 k2 (tl:=[]) (fun i=>by simp only[zv,aB,Option.or_none];exact hl i) pK []
variable{nm:P0}
def Hj{v:ai}(J':aA prog 227 [.agg (bp p),.agg (bv s),rS nm,.agg (bk v)] (.bt [.agg (bv s'),rB true])):nJ prog 224 [.pt (hn 9 0) 0 0 0,rS nm,.agg (bk v)] (fQ p inp s) (rB true) (fQ p inp s'):=by
 refine⟨?_,j7,j7,zh,by simp[aU,AV.all,fQ,ids,x9]⟩;have QU:=(j7 (p:=p) (inp:=inp) (s:=s)).low;have hg:=u5 (p:=p) (inp:=inp) (s:=s);have k1:=j7 (p:=p) (inp:=inp) (s:=s);have k2:=j7 (p:=p) (inp:=inp) (s:=s');have hl:∀i,aB (eD (fQ p inp s) (hn 9 0) (.var 82 (aK p++(bv s'++[ax eI 1 inp])))) i=aB (fQ p inp s') i:=fun i=>by
  rw[nD];show _=if i=hn 9 0 then _ else _
  split
  ·rfl
  ·rename_i h;show(if i=hn 9 0 then _ else _)=_;rw[if_neg h]
 rw[Aw]at J';simp only[aK]at J';generalize fQ p inp s'=e' at*;generalize fQ p inp s=e at*;refine aO (L:=ids e) func224 ntmps224 ?_ (hL:=rfl);generalize hB:ids e=B;refine vJ ?_
 (have W:=jA QU hg;repeat' (first|refine aq fun K hK=>?_|refine am ?_|(with_reducible refine gR 1 ?_);refine dL 1 [] [14] (au 0 17) mixed ?_|(refine hK _ _ ?_;clear hK K)|(refine ao ?_ ?_<;>intro hc<;>try exact jz)|refine bz 4 ?_|refine bf 5 ?_|refine cp (J') ?_|refine ap ?_|exact jI|(clear hK K)))
 exact tZ (l:=e') hB k1 k2 (tl:=[(4,.var 50 (bk v)),(5,.var 39 (bv s'))]) (fun i=>by rw[zv,zv];exact congrArg (fun o=>Option.or o _) (hl i)) (qR jC (qR jC pK)) [.tmp 6]
def Hq{v:ai}(J':aA prog 227 [.agg (bp p),.agg (bv s),rS nm,.agg (bk v)] (.bt [.agg (bv s'),rB false])):nJ prog 224 [.pt (hn 9 0) 0 0 0,rS nm,.agg (bk v)] (fQ p inp s) (rB false) (fQ p inp s):=by
 refine⟨?_,j7,j7,zh,by simp[aU,AV.all,fQ,ids,x9]⟩;have QU:=(j7 (p:=p) (inp:=inp) (s:=s)).low;have hg:=u5 (p:=p) (inp:=inp) (s:=s);have k1:=j7 (p:=p) (inp:=inp) (s:=s);rw[Aw]at J';simp only[aK]at J';generalize fQ p inp s=e at*;refine aO (L:=ids e) func224 ntmps224 ?_ (hL:=rfl);generalize hB:ids e=B;refine vJ ?_
 (have W:=jA QU hg;repeat' (first|refine aq fun K hK=>?_|refine am ?_|(with_reducible refine gR 1 ?_);refine dL 1 [] [14] (au 0 17) mixed ?_|(refine hK _ _ ?_;clear hK K)|(refine ao ?_ ?_<;>intro hc<;>try exact jz)|refine bz 4 ?_|refine bf 5 ?_|refine cp (J') ?_|refine ap ?_|exact jI|(clear hK K)))
 exact tZ (l:=e) hB k1 k1 (tl:=[(4,.var 50 (bk v)),(5,.var 39 (bv s'))]) (fun _=>rfl) (qR jC (qR jC pK)) [.tmp 6]
end
attribute [go_sem] Bool.false_and Bool.true_and
structure ph{σ:Type}(tm:σ->Int)(sp:σ->σ)(se:σ->ByteArray->ai->Option σ)(E:List ba)(I:σ->Prop)(g:σ->List (Nat×Row))(T:TypeId)(v:AV)(ft fs fe:FuncId):Prop where
 mt : mf prog T "furcate/trace.time" = some ft
 ms : mf prog T "furcate/trace.step" = some fs
 me : mf prog T "furcate/trace.set" = some fe
 ct:aQ prog ft=true
 cs:aQ prog fs=true
 ce:aQ prog fe=true
 time:∀s,I s->nJ prog ft [v] (g s) (rI (tm s)) (g s)
 step:∀s,I s->tm s<200->nJ prog fs [v] (g s) (.bt []) (g (sp s))
 set:∀s k,I s->k<E.length->nJ prog fe [v,rS (nth E k).name,.agg (bk (nth E k).v)] (g s) (rB (se s (nth E k).name (nth E k).v).isSome) (g ((se s (nth E k).name (nth E k).v).getD s))
structure D5(σ:Type) where
 s:σ
 k:Nat
 b:Bool
section
variable {σ:Type}{tm:σ->Int}{sp:σ->σ}{se:σ->P0->ai->Option σ}{E:List ba}{I:σ->Prop}{g:σ->PV}{T:P1}{v:AV}{ft fs fe:FuncId}
def ph.kept(h:ph tm sp se E I g T v ft fs fe)(ok:jj tm sp se E I)(s0:σ):jj tm sp se E fun s=>I s/\∀i,aB (g s0) i≠none->aB (g s) i≠none:=by
 refine⟨fun s k s' hs hk e=>?_,fun s hs ht=>?_,fun s hs=>ok.tm s hs.1⟩
 ·obtain⟨a,b⟩:=ok.se s k s' hs.1 hk e;have hd:=(h.set s k hs.1 hk).bS;rw[e]at hd;exact⟨⟨a,fun i hi=>hd i (hs.2 i hi)⟩,b⟩
 ·obtain⟨a,b⟩:=ok.st s hs.1 ht;exact⟨⟨a,fun i hi=>(h.step s hs.1 ht).bS i (hs.2 i hi)⟩,b⟩
def Nc(h:ph tm sp se E I g T v ft fs fe)(ok:jj tm sp se E I)(hl:E.length<=1000)(s0:σ)(hi:I s0)(t0:Int)(WH:bn t0)(h0:tm s0<=dB t0) :
  nJ prog 32 [.iz T v,ax dw 5 E,rI t0] (g s0) (rI (kg E (dB t0) (dD tm sp se E (dB t0) ((dB t0-tm s0).toNat+1) s0 0 false))) (g (dD tm sp se E (dB t0) ((dB t0-tm s0).toNat+1) s0 0 false).1):=by
 have hc:dB t0=min (max t0 0) 200:=rfl;have ZW:dB t0<=200:=jB;have ht1:0<=dB t0:=jB;obtain⟨⟨k1,k2⟩,k3,k4,k5⟩:=vO (h.kept ok s0) ZW ((dB t0-tm s0).toNat+1) s0 0 false ⟨hi,fun i h=>h⟩ h0 (Nat.zero_le _);refine⟨?_,(h.time s0 hi).e1,(h.time _ k1).e1,k2,by have:=(h.time s0 hi).a;simp only[aU,AV.all,Bool.and_true]at this ⊢;rw[this]⟩;generalize hF:dD tm sp se E (dB t0) ((dB t0-tm s0).toNat+1) s0 0 false=F at*;have Qi:(if 200<(if 0>t0 then 0 else t0)then 200 else(if 0>t0 then 0 else t0))=dB t0:=by unfold dB;(repeat' split)<;>omega
 clear hc;generalize dB t0=t at*;have WK:=h.mt;have YN:=h.ms;have YO:=h.me;obtain⟨e,he⟩:∃e,g s0=e:=⟨_,rfl⟩;rw[he];refine aO (L:=ids e) func32 ntmps32 ?_ (hL:=rfl);generalize hB:ids e=B;refine vJ ?_;subst he
 (have W:=Qi;repeat' (first|refine aq fun K hK=>?_|refine am ?_|(with_reducible refine gR 3 ?_);refine dE 3 (au 0 18) mixed ?_|(with_reducible refine gR 4 ?_);refine dE 4 (au 0 17) mixed ?_|(refine hK _ _ ?_;clear hK K)|(refine ao ?_ ?_<;>intro hc<;>try exact jz)|(refine cn ?_ ?_<;>intro hc<;>try exact jz)|refine ap ?_|exact jI|(clear hK K)))
 have M':=hK;clear hK;refine de (S:=D5 σ) [(7,3),(13,49)] (fun x=>I x.s/\tm x.s<=t/\x.k<=E.length/\dD tm sp se E t ((t-tm x.s).toNat+1) x.s x.k x.b=F) (fun x=>[(7,rI x.k),(8,rB x.b)]) (fun x=>⟨B,tie (g x.s) []⟩) (fun x=>(t-tm x.s).toNat) ⟨s0,0,false⟩ ⟨hi,h0,Nat.zero_le _,hF⟩ (dc rfl bK) ?_;rintro⟨s,k,b⟩ ⟨hs,ht,Rc,hg⟩ Kr P9;simp only at hs ht Rc hg;have hlo0:=(h.time s hs).e1.low;obtain⟨⟨u1,u2⟩,u3,u4⟩:=rK (h.kept ok s) (E.length+1) s k b ⟨hs,fun i h=>h⟩;obtain⟨Q,hQ⟩:∃Q,bV tm se E (E.length+1) s k b=Q:=⟨_,rfl⟩;refine S ?_
 (repeat' (first|refine aq fun K hK=>?_|refine am ?_|(with_reducible refine gR 3 ?_);refine dE 3 (au 0 18) mixed ?_|(with_reducible refine gR 4 ?_);refine dE 4 (au 0 17) mixed ?_|(refine hK _ _ ?_;clear hK K)|(refine ao ?_ ?_<;>intro hc<;>try exact jz)|(refine cn ?_ ?_<;>intro hc<;>try exact jz)|refine ap ?_|exact jI|(clear hK K)))
 have TY:=hK;clear hK;refine de (S:=D5 σ) [(7,2),(13,38)] (fun y=>I y.s/\tm y.s=tm s/\y.k<=E.length/\bV tm se E (E.length+1-y.k) y.s y.k y.b=Q) (fun y=>[(7,rI y.k),(8,rB y.b)]) (fun y=>⟨B,tie (g y.s) []⟩) (fun y=>2*(E.length-y.k)+(if y.b=true then 0 else 1)) ⟨s,k,b⟩ ⟨hs,rfl,Rc,?_⟩ (dc rfl bK) ?_
 ·exact(BJ (E.length+1-k) (E.length+1) s k b jB jB).trans hQ
 rintro⟨s1,k1',b1⟩ ⟨Tm,Vy,Vz,TI⟩ Kr2 Tv;simp only at Tm Vy Vz TI;have Ti:=h.time s1 Tm;have Uf:=Ti.e1.low;have R7:=h.ct;by_cases VA:b1=false/\k1'<E.length/\(nth E k1').at_=tm s1
 ·obtain⟨cb,ck,ca⟩:=VA;have N':=h.set s1 k1' Tm ck;have YP:=h.ce;have ck2:(k1':Int)<(E.length:Int):=jB;subst cb;rw[show E.length+1-k1'=(E.length-k1')+1 from jB]at TI;cases e:se s1 (nth E k1').name (nth E k1').v with
  |none=>
   rw[yS ck ca e]at TI;rw[e]at N';refine S ?_
   (have W:=jA WK (jA YO (jA Uf (jA ck2 (ca))));repeat' (first|refine aq fun K hK=>?_|refine am ?_|(with_reducible refine gR 3 ?_);refine dE 3 (au 0 18) mixed ?_|(with_reducible refine gR 4 ?_);refine dE 4 (au 0 17) mixed ?_|(refine hK _ _ ?_;clear hK K)|(refine ao ?_ ?_<;>intro hc<;>try exact jz)|(refine vD Ti ?_ (h0:=R7))|(refine cT N' ?_ (h0:=YP))|(refine cn ?_ ?_<;>intro hc<;>try exact jz)|refine ap ?_|exact jI|(clear hK K)))
   exact Tv _ _ (dI ⟨s1,k1',true⟩ ⟨Tm,Vy,Vz,(pE (.inl rfl)).trans TI⟩ (by show 2*(E.length-k1')+0<2*(E.length-k1')+1;omega) rfl bK)
  |some s2=>
   rw[wB ck ca e]at TI;rw[e]at N';obtain⟨n1,n2⟩:=ok.se s1 k1' s2 Tm ck e;refine S ?_
   (have W:=jA WK (jA YO (jA Uf (jA ck2 (ca))));repeat' (first|refine aq fun K hK=>?_|refine am ?_|(with_reducible refine gR 3 ?_);refine dE 3 (au 0 18) mixed ?_|(with_reducible refine gR 4 ?_);refine dE 4 (au 0 17) mixed ?_|(refine hK _ _ ?_;clear hK K)|(refine ao ?_ ?_<;>intro hc<;>try exact jz)|(refine vD Ti ?_ (h0:=R7))|(refine cT N' ?_ (h0:=YP))|(refine cn ?_ ?_<;>intro hc<;>try exact jz)|refine ap ?_|exact jI|(clear hK K)))
   exact Tv _ _ (dI ⟨s2,k1'+1,false⟩ ⟨n1,n2.trans Vy,by show k1'+1<=E.length;omega,by show bV tm se E (E.length+1-(k1'+1)) s2 (k1'+1) false=Q;rw[show E.length+1-(k1'+1)=E.length-k1' from jB];exact TI⟩ (by show 2*(E.length-(k1'+1))+1<2*(E.length-k1')+1;omega) rfl bK)
 ·have ZX:Q=(s1,k1',b1):=by
   rw[<-TI];by_cases a:b1=true\/E.length<=k1'
   ·exact pE a
   ·refine yM fun hl e=>VA ⟨?_,hl,e⟩
    cases b1
    ·rfl
    ·exact(a (.inl rfl)).elim
  have h3:(b1=true/\True/\True)\/(b1=false/\(k1':Int)<(E.length:Int)/\¬(nth E k1').at_=tm s1)\/(b1=false/\¬(k1':Int)<(E.length:Int)/\True):=by
   cases b1
   ·right
    by_cases ck:k1'<E.length
    ·exact .inl ⟨rfl,jB,fun e=>VA ⟨rfl,ck,e⟩⟩
    ·exact .inr ⟨rfl,jB,trivial⟩
   ·exact .inl ⟨rfl,trivial,trivial⟩
  have WV:(¬(k1':Int)<(E.length:Int)/\True/\∀z:σ,kg E t (z,k1',b1)=0)\/((k1':Int)<(E.length:Int)/\(nth E k1').at_<=t/\∀z:σ,kg E t (z,k1',b1)=(k1':Int)+1)\/((k1':Int)<(E.length:Int)/\¬(nth E k1').at_<=t/\∀z:σ,kg E t (z,k1',b1)=0):=by
   by_cases ck:k1'<E.length
   ·by_cases d:(nth E k1').at_<=t
    ·exact .inr (.inl ⟨jB,d,fun z=>by unfold kg;rw[if_pos ⟨ck,d⟩]⟩)
    ·exact .inr (.inr ⟨jB,d,fun z=>by unfold kg;rw[if_neg (fun h=>d h.2)]⟩)
   ·exact .inl ⟨jB,trivial,fun z=>by unfold kg;rw[if_neg (fun h=>ck h.1)]⟩
  rw[ZX]at hQ;have QA:dD tm sp se E t ((t-tm s).toNat+1) s k b=if tm s1=t then(s1,k1',b1)else if tm (sp s1)=tm s1 then(sp s1,k1',b1)else dD tm sp se E t (t-tm s).toNat (sp s1) k1' b1:=by
   conv=>lhs;unfold dD
   rw[hQ]
  rw[hg]at QA;by_cases a:tm s1=t
  ·rw[if_pos a]at QA;subst QA;rcases h3 with⟨cb,q1,q2⟩|⟨cb,q1,q2⟩|⟨cb,q1,q2⟩<;>subst cb<;>rcases WV with⟨d1,d2,d3⟩|⟨d1,d2,d3⟩|⟨d1,d2,d3⟩
   all_goals try omega
   all_goals
    refine S ?_
    (have W:=jA WK (jA Uf (jA q1 (jA q2 (jA a (jA d1 (d2))))));repeat' (first|refine aq fun K hK=>?_|refine am ?_|(with_reducible refine gR 3 ?_);refine dE 3 (au 0 18) mixed ?_|(with_reducible refine gR 4 ?_);refine dE 4 (au 0 17) mixed ?_|(refine hK _ _ ?_;clear hK K)|(refine ao ?_ ?_<;>intro hc<;>try exact jz)|(refine vD Ti ?_ (h0:=R7))|(refine⟨rI 0,?_⟩;refine S ?_)|(refine⟨rI 0,fun h=>absurd h Bool.false_ne_true,?_⟩;refine S ?_)|(refine cT Ti ?_ (h0:=R7))|refine TY _ _ ?_|refine M' _ _ ?_|(refine cn ?_ ?_<;>intro hc<;>try exact jz)|refine ap ?_|exact jI|(clear hK K)))
    rw[d3];exact tZ hB (h.time s0 hi).e1 Ti.e1 (tl:=[]) (fun _=>rfl) pK [.tmp 6]
  ·rw[if_neg a]at QA;have Qd:tm s1<200:=jB;have J':=h.step s1 Tm Qd;obtain⟨w1,w2⟩:=ok.st s1 Tm Qd;have UF:=h.time (sp s1) w1;have WL:=UF.e1.low;have Ru:=h.cs;by_cases c:tm (sp s1)=tm s1
   ·rw[if_pos c]at QA;subst QA;rcases h3 with⟨cb,q1,q2⟩|⟨cb,q1,q2⟩|⟨cb,q1,q2⟩<;>subst cb<;>rcases WV with⟨d1,d2,d3⟩|⟨d1,d2,d3⟩|⟨d1,d2,d3⟩
    all_goals try omega
    all_goals
     refine S ?_
     (have W:=jA WK (jA YN (jA Uf (jA WL (jA q1 (jA q2 (jA a (jA c (jA d1 (d2)))))))));repeat' (first|refine aq fun K hK=>?_|refine am ?_|(with_reducible refine gR 3 ?_);refine dE 3 (au 0 18) mixed ?_|(with_reducible refine gR 4 ?_);refine dE 4 (au 0 17) mixed ?_|(refine hK _ _ ?_;clear hK K)|(refine ao ?_ ?_<;>intro hc<;>try exact jz)|(refine vD Ti ?_ (h0:=R7))|(refine⟨rI 0,?_⟩;refine S ?_)|(refine⟨rI 0,fun h=>absurd h Bool.false_ne_true,?_⟩;refine S ?_)|(refine cT Ti ?_ (h0:=R7))|(refine cT J' ?_ (h0:=Ru))|(refine cT UF ?_ (h0:=R7))|refine TY _ _ ?_|refine M' _ _ ?_|(refine cn ?_ ?_<;>intro hc<;>try exact jz)|refine ap ?_|exact jI|(clear hK K)))
     rw[d3];exact tZ hB (h.time s0 hi).e1 UF.e1 (tl:=[]) (fun _=>rfl) pK [.tmp 6]
   ·rw[if_neg c]at QA;rcases h3 with⟨cb,q1,q2⟩|⟨cb,q1,q2⟩|⟨cb,q1,q2⟩<;>subst cb
    all_goals
     refine S ?_
     (have W:=jA WK (jA YN (jA Uf (jA WL (jA q1 (jA q2 (jA a (c)))))));repeat' (first|refine aq fun K hK=>?_|refine am ?_|(with_reducible refine gR 3 ?_);refine dE 3 (au 0 18) mixed ?_|(with_reducible refine gR 4 ?_);refine dE 4 (au 0 17) mixed ?_|(refine hK _ _ ?_;clear hK K)|(refine ao ?_ ?_<;>intro hc<;>try exact jz)|(refine vD Ti ?_ (h0:=R7))|(refine⟨rI 0,?_⟩;refine S ?_)|(refine⟨rI 0,fun h=>absurd h Bool.false_ne_true,?_⟩;refine S ?_)|(refine cT Ti ?_ (h0:=R7))|(refine cT J' ?_ (h0:=Ru))|(refine cT UF ?_ (h0:=R7))|refine TY _ _ ?_|(refine cn ?_ ?_<;>intro hc<;>try exact jz)|refine ap ?_|exact jI|(clear hK K)))
     have Q8:=QA.symm;rw[show(t-tm s).toNat=(t-tm (sp s1)).toNat+1 from jB]at Q8;exact P9 _ _ (dI ⟨sp s1,k1',_⟩ ⟨w1,by show tm (sp s1)<=t;omega,Vz,Q8⟩ (by show(t-tm (sp s1)).toNat<(t-tm s).toNat;omega) rfl bK)
end
@[go_sem] def j6g:(∀(s:aw) (x:Bool) (n:Nat) (l:PU) (d:PW),(bv s++[AV.sl x n l d]).all AV.one=true)/\(∀(s:aw) (x:AV),List.drop 8 (bv s++[x])=[]):=by and_intros<;>(intros;rfl)
@[go_sem] def j6k:(prog).underlying 79=some (.pointer 82):=jG
structure qq(p:ae):Prop where
 ok:bY p
 fn:∀k,k<p.aa.nodes.length->0<=nth p.fn k/\nth p.fn k<p.aa.av.length
def IX(hp:qq p)(h:bC p s)(nm:P0)(v:ai):aA prog 227 [.agg (bp p),.agg (bv s),rS nm,.agg (bk v)] (.bt [.agg (bv ((br p s nm v).getD s)),rB (br p s nm v).isSome]):=by
 unfold br;by_cases c:bq p s<0\/fT v=false\/v.ty=4
 ·rw[if_pos c];exact Ou hp.ok h nm v c
 ·rw[if_neg c];have h0:¬bq p s<0:=fun e=>c (.inl e)
  have hm:fT v=true:=by
   cases e:fT v
   ·exact(c (.inr (.inl e))).elim
   ·rfl
  have h4:¬v.ty=4:=fun e=>c (.inr (.inr e))
  by_cases d:lJ nm v.ty (gN p (bq p s)) 0<0
  ·rw[if_pos d];exact JE hp.ok h nm v hp.fn h0 hm h4 d
  ·rw[if_neg d];obtain⟨k,e,hk,g1,g2⟩:=FG nm v.ty (gN p (bq p s)) 0 (by show 0<=lJ nm v.ty (gN p (bq p s)) 0;omega);have e:lJ nm v.ty (gN p (bq p s)) 0=0+(k:Int):=e;rw[show(lJ nm v.ty (gN p (bq p s)) 0).toNat=k from jB];exact N4 hp.ok h nm v hp.fn h0 hm h4 k hk g1 g2
def KT : mf prog 79 "furcate/trace.time" = some 226 := by kernel_rfl
def Ls : mf prog 79 "furcate/trace.step" = some 225 := by kernel_rfl
def H9 : mf prog 79 "furcate/trace.set" = some 224 := by kernel_rfl
section
variable {p:ae}(hp:qq p){inp:PY}(SB:inp.length<=1000)(hi:∀x∈inp,bn x){E:List ba}
include hp SB hi
theorem HL:ph dz (fu p inp) (br p) E (IS p inp) (fQ p inp) 79 (.pt (hn 9 0) 0 0 0) 226 225 224:=by
 refine⟨KT,Ls,H9,jD,jD,jD,fun s _=>Le,fun s h _=>Pd (Pv hp.ok h.eb jC inp SB),fun s k h _=>?_⟩;have:=IX hp h.eb.inv (nth E k).name (nth E k).v;cases e:br p s (nth E k).name (nth E k).v with
 |none=> rw[e]at this;exact Hq this
 |some s'=> rw[e]at this;exact Hj this
theorem nw(hl:E.length<=1000)(hE:∀k,k<E.length->bn (nth E k).v.n)(t:Int)(ht:bn t):aA prog 13 [.agg (bp p),ax eI 1 inp,ax dw 5 E,rI t] (.bt [.agg (bv (er p inp E t).1),rI (er p inp E t).2]):=by
 obtain⟨a,b⟩:=qz hp.ok SB hi;have RW:aA prog 31 [.agg (bp p)] (.agg (bv (dx p))):=H6 hp.ok;have WH:dz (dx p)<=dB t:=by show(dx p).time<=_;unfold dB;omega
 have RC:=Nc (HL hp SB hi (E:=E)) (p6 hp.ok SB hi hE) hl (dx p) a t ht WH;have hF:dD dz (fu p inp) (br p) E (dB t) ((dB t-dz (dx p)).toNat+1) (dx p) 0 false=kE p inp E (dB t):=rfl;rw[hF]at RC;unfold er;generalize kE p inp E (dB t)=F at*;simp only;generalize kg E (dB t) F=bad at*;have TA:∀i,aB [(4,.var 29 (bp p)),(6,.var 39 [.raw (.slice none 0 0),.raw (.slice none 0 0),rI 0,.raw (.slice none 0 0),rI 0,rI 0,rI 0]),(hn 9 0,.var 82 (aK p++(bv (dx p)++[ax eI 1 inp])))] i=aB (tie (fQ p inp (dx p)) [(4,.var 29 (bp p)),(6,.var 39 [.raw (.slice none 0 0),.raw (.slice none 0 0),rI 0,.raw (.slice none 0 0),rI 0,rI 0,rI 0])]) i:=fun i=>by
  unfold fQ tie;simp only[List.cons_append,List.nil_append,aB];have:=xV 9 0
  (repeat' split)<;>first|rfl|omega
 have QU:=(j7 (p:=p) (inp:=inp) (s:=F.1)).low;have hg:=u5 (p:=p) (inp:=inp) (s:=F.1);generalize fQ p inp (dx p)=e0 at*;generalize fQ p inp F.1=e1 at*;refine bI func13 ntmps13 ?_
 (have W:=jA QU hg;repeat' (first|refine aq fun K hK=>?_|refine am ?_|(with_reducible refine gR 1 ?_);refine dC 1 ([],[14],[]) [] (au 0 7) mixed ?_|(refine hK _ _ ?_;clear hK K)|(refine ao ?_ ?_<;>intro hc<;>try exact jz)|refine bz 4 ?_|refine bz (hn 9 0) ?_|refine bf 6 ?_|refine cq (RW) ?_|refine cp (RW) ?_|(refine Mc RC (tl:=[(4,.var 29 (bp p)),(6,.var 39 [.raw (.slice none 0 0),.raw (.slice none 0 0),rI 0,.raw (.slice none 0 0),rI 0,rI 0,rI 0])]) TA ?_;try refine S ?_)|(refine cn ?_ ?_<;>intro hc<;>try exact jz)|refine ap ?_|exact jI|(clear hK K)))
 have ha:(AV.bt [.agg (bv F.1),rI bad]).all (df fun _=>true)=true:=by show((AV.agg (bv F.1)).all (df fun _=>true) && true)=true;rw[Bool.and_true];simp only[AV.all];exact qW _ _
 refine oO (out:=[.agg (bv F.1),rI bad]) [.cell 8 39,.tmp 9] rfl (.same (.bt [.agg (bv F.1),rI bad]) ha) (ho:=?_) (hok:=?_)
 ·simp(disch:=first|omega|fail) only[go_sem,QU,↓reduceIte,Nat.reduceEqDiff,Nat.reduceLeDiff,Nat.reduceSub,Nat.reduceAdd]
 ·simp(disch:=first|omega|fail) only[go_sem,QU,↓reduceIte,Nat.reduceEqDiff,Nat.reduceLeDiff,Nat.reduceSub,Nat.reduceAdd]
end
def ld(s:P0):aA prog 11 [rS s] (rS (jK s)):=by
 refine bI func11 ntmps11 ?_
 (repeat' (first|refine aq fun K hK=>?_|refine am ?_|(refine hK _ _ ?_;clear hK K)|(refine ao ?_ ?_<;>intro hc<;>try exact jz)|(refine cn ?_ ?_<;>intro hc<;>try exact jz)|refine ap ?_|exact jI|(clear hK K)))
 ·(refine aY [.tmp 2] ?_;try simp only[go_sem])
  unfold jK;rw[jP]
 ·(refine aY [.tmp 2] ?_;try simp only[go_sem])
  unfold jK;rw[jN]
def n8(l:PY):aA prog 12 [ax eI 1 l] (ax eI 1 (fG l)):=by
 refine bI func12 ntmps12 ?_
 (repeat' (first|refine aq fun K hK=>?_|refine am ?_|(refine hK _ _ ?_;clear hK K)|(refine ao ?_ ?_<;>intro hc<;>try exact jz)|(refine cn ?_ ?_<;>intro hc<;>try exact jz)|refine ap ?_|exact jI|(clear hK K)))
 ·(refine aY [.tmp 2] ?_;try simp only[go_sem])
  rfl
 ·(refine aY [.tmp 2] ?_;try simp only[go_sem])
  rw[show fG l=l from List.take_of_length_le jB]
def xE{a:Int}(m:Nat)(hm:0<m)(h:0<=a/\a<256):∃n:Nat,n<m/\a.tmod m=(n:Int):=by refine⟨(a.tmod m).toNat,?_,?_⟩<;>(rw[Int.tmod_eq_emod_of_nonneg h.1];have:=Int.emod_nonneg a (b:=m) jB;have:=Int.emod_lt_of_pos a (b:=(m:Int)) jB;omega)
def uG{s:P0}(he:(fJ s).2.2=0):qq (fJ s).1:=⟨CA he,Kc he⟩
def vr(l:List ba):aA prog 16 [ax dw 5 l] (ax dw 5 (kz l)):=by
 refine bI func16 ntmps16 ?_
 (repeat' (first|refine aq fun K hK=>?_|refine am ?_|(refine hK _ _ ?_;clear hK K)|(refine ao ?_ ?_<;>intro hc<;>try exact jz)|refine lb 0 ?_|(refine cn ?_ ?_<;>intro hc<;>try exact jz)|refine ap ?_|exact jI|(clear hK K)))
 have M':=hK;clear hK;refine de (S:=Nat) [(3,3),(7,37)] (fun k=>k<=l.length/\k<=10) (fun k=>[(4,rI k),(3,.rs 0 k 5 k)]) (fun k=>⟨[],[(0,.aG 52 5 (((l.take k).map ni).map dw))]⟩) (fun k=>10-k) 0 jB (dc rfl bK) ?_;rintro k ⟨hk,Qf⟩ Kr P9;have Rc:(((l.take k).map ni).map dw).length=k:=by simp;omega
 by_cases Qd:k<l.length/\k<10
 ·obtain⟨h1,h2⟩:=Qd;have hex:((l.take (k+1)).map ni).map dw=((l.take k).map ni).map dw++[dw (ni (nth l k))]:=by
   rw[qF h1];simp
  have Ta:ni (nth l k)={ nth l k with name:=if 20<(nth l k).name.size then(nth l k).name.extract 0 20 else(nth l k).name,v:={ (nth l k).v with s:=if 60<(nth l k).v.s.size then(nth l k).v.s.extract 0 60 else(nth l k).v.s } }:=rfl;by_cases c1:20<(nth l k).name.size<;>by_cases c2:60<(nth l k).v.s.size
  all_goals
   first|rw[if_pos c1]at Ta|rw[if_neg c1]at Ta
   first|rw[if_pos c2]at Ta|rw[if_neg c2]at Ta
   refine S ?_
   (have W:=jA h1 (jA h2 (jA Rc (jA c1 (c2))));repeat' (first|refine aq fun K hK=>?_|refine am ?_|(refine hK _ _ ?_;clear hK K)|(refine ao ?_ ?_<;>intro hc<;>try exact jz)|refine bf 1 ?_|refine M' _ _ ?_|(refine cn ?_ ?_<;>intro hc<;>try exact jz)|refine ap ?_|exact jI|(clear hK K)))
   refine P9 _ _ (oP [1] (k+1) ⟨jB,jB⟩ (by show 10-(k+1)<10-k;omega) rfl Sd ?_ gJ);show Hp.mk _ [(0,_)]=Hp.mk _ [(0,.aG _ _ (((l.take (k+1)).map ni).map dw))];rw[hex,Ta]
 ·have e:kz l=(l.take k).map ni:=by
   unfold kz;rcases Nat.lt_or_ge k 10 with h|h
   ·rw[List.take_of_length_le (i:=10) jB,List.take_of_length_le (i:=k) jB]
   ·rw[show k=10 from jB]
  rw[e];by_cases h1:k<l.length
  ·have h2:¬k<10:=fun h=>Qd ⟨h1,h⟩
   refine S ?_
   (have W:=jA h1 (jA h2 (Rc));repeat' (first|refine aq fun K hK=>?_|refine am ?_|(refine hK _ _ ?_;clear hK K)|(refine ao ?_ ?_<;>intro hc<;>try exact jz)|refine M' _ _ ?_|(refine cn ?_ ?_<;>intro hc<;>try exact jz)|refine ap ?_|exact jI|(clear hK K)))
   refine jf [.tmp 2] ?_;rw[e];show db _ _ (.rs 0 k 5 k) _;refine db.row (enc:=dw) ((l.take k).map ni) rfl rfl ?_;rw[List.length_map,List.length_take];omega
  ·(refine S ?_;try exact jI)
   (have W:=jA h1 Rc;repeat' (first|refine aq fun K hK=>?_|refine am ?_|(refine hK _ _ ?_;clear hK K)|(refine ao ?_ ?_<;>intro hc<;>try exact jz)|refine M' _ _ ?_|(refine cn ?_ ?_<;>intro hc<;>try exact jz)|refine ap ?_|exact jI|(clear hK K)))
   refine jf [.tmp 2] ?_;rw[e];show db _ _ (.rs 0 k 5 k) _;refine db.row (enc:=dw) ((l.take k).map ni) rfl rfl ?_;rw[List.length_map,List.length_take];omega
def uK:P0:=(⟨#[102,110,32,109,97,105,110,40,41,123,108,101,116,32,97,61,49,59,112,114,105,110,116,32,97,59,125]⟩:P0)
def xT:XT:=[(10,[rS uK],.bt [.agg (bp (fJ uK).1),rI (fJ uK).2.1,rI (fJ uK).2.2]),(105,[rI 5],rS (xl 5))]
def OS:List (FuncId×Nat×Bool×PZ×PZ×PZ×PZ):=[(22,1,false,[],[6,7],[],[]),(25,3,false,[34],[],[],[]),(26,1,false,[],[11,20],[27],[0,1,2,3,5,6,7,8,9,10,11,12,14,15,16,17,18,19,20,21,22,23,24,25,4,13,26,27,28]),(26,8,false,[],[79,81],[],[]),(28,1,false,[],[14],[],[0,1,3,2,4,5,6]),(43,0,false,[],[32],[],[]),(75,10,false,[47],[],[],[]),(76,5,true,[],[24],[],[0,1,2,3,4,5,7,6,8,9,10,11]),(76,14,false,[70],[],[],[]),(77,4,true,[],[26,1000000],[],[]),(77,8,true,[44,51],[49],[],[]),(77,12,true,[73],[78],[],[0,1,2,3,4,5,6,7,8,9,10,11,14,12,13,15,16]),(77,16,true,[],[97],[],[]),(78,10,false,[35],[],[],[]),(80,9,true,[73],[72,1000000],[],[]),(115,3,false,[12],[],[],[]),(124,4,false,[28],[],[],[]),(237,10,true,[],[72],[],[]),(268,6,true,[],[56],[],[])]
def xH:XH:=fun f i=>(OS.find? fun x=>x.1 == f && x.2.1 == i).map fun x=>x.2.2
def Kg:vw prog xT:=⟨⟨jG,te uK jC⟩,⟨jG,AZ 5 ⟨jC,jC⟩⟩,trivial⟩
def k7:aA prog 9 [] (rB true):=Hc Kg mixed xH 300 40 (by decide +kernel)
end Go.Proofs.YtghoellpinmenaaGreatDoor
/- Lemmas. No conditions. -/
import Derived.Test.YtjpcgmjaipfgdaaGreatDoorRpQ
set_option linter.all false
set_option maxHeartbeats 4000000
set_option maxRecDepth 10000
namespace Go.Gd
open Go
def mb:List aw->Prop
 |[]=>True
 |x::l=>(∀y,l.head?=some y->x.at_<=y.at_)/\mb l
def dh(E:List aw)(t:Int):List aw:=E.filter fun x=>decide (x.at_<=t)
theorem Iz{t:Int}:∀(l:List aw) (x:aw),mb (x::l)->t<x.at_->dh l t=[]/\∀k,k<l.length->t<(nth l k).at_
 |[],x,_,_=>⟨rfl,fun k hk=>by simp at hk⟩
 |y::l,x,h,hx=>by
  have hy:t<y.at_:=by have:=h.1 y rfl;omega
  obtain⟨a,b⟩:=Iz l y h.2 hy;refine⟨?_,fun k hk=>?_⟩
  ·unfold dh at a ⊢;rw[List.filter_cons_of_neg jF,a]
  ·cases k with
   |zero=>exact hy
   |succ k=>exact b k (by simpa using hk)
theorem Gp{t:Int}:∀(E:List aw),mb E->∃K,K<=E.length/\dh E t=E.take K/\∀k,K<=k->k<E.length->t<(nth E k).at_
 |[],_=>⟨0,Nat.le_refl _,rfl,fun k _ hk=>by simp at hk⟩
 |x::l,h=>by
  by_cases c:x.at_<=t
  ·obtain⟨K,h1,h2,h3⟩:=Gp l h.2;refine⟨K+1,by simp;omega,?_,fun k hk hl=>?_⟩
   ·unfold dh at h2 ⊢;rw[List.filter_cons_of_pos (by simpa using c),h2];rfl
   ·cases k with
    |zero=>omega
    |succ k=>exact h3 k jB (by simpa using hl)
  ·obtain⟨a,b⟩:=Iz (t:=t) l x h jB;refine⟨0,Nat.zero_le _,?_,fun k _ hk=>?_⟩
   ·unfold dh at a ⊢;rw[List.filter_cons_of_neg (by simpa using c),a];rfl
   ·cases k with
    |zero=>show t<x.at_;omega
    |succ k=>exact b k (by simpa using hk)
def hZ(x:aw):List aw->List aw
 |[]=>[x]
 |y::l=>if x.at_<y.at_ then x::y::l else y::hZ x l
def gP:List aw->List aw->List aw
 |a,[]=>a
 |a,x::b=>gP (hZ x a) b
def gK(x:aw):List aw->Nat
 |[]=>0
 |y::l=>if x.at_<y.at_ then 0 else gK x l+1
def oi(x:aw):Bool:=decide (1<=x.name.size) && decide (x.name.size<=8) && decide (0<=x.at_) && decide (x.at_<=200) && decide (x.v.ty≠4) && lc x.v
theorem yk(x:aw):∀l,gK x l<=l.length
 |[]=>Nat.le_refl _
 |y::l=>by
  unfold gK;split
  ·exact Nat.zero_le _
  ·have:=yk x l;simp only[List.length_cons];omega
theorem y0(x:aw):∀l,hZ x l=l.take (gK x l)++x::l.drop (gK x l)
 |[]=>rfl
 |y::l=>by
  unfold hZ gK;split
  ·rfl
  ·rw[y0 x l];rfl
theorem GS(x:aw):∀(l:List aw) (k:Nat),k<gK x l->¬x.at_<(nth l k).at_
 |[],k,h=>by unfold gK at h;omega
 |y::l,k,h=>by
  unfold gK at h;split at h
  ·omega
  ·rename_i c;cases k with
   |zero=>exact c
   |succ k=>exact GS x l k jB
theorem E2(x:aw):∀(l:List aw),gK x l<l.length->x.at_<(nth l (gK x l)).at_
 |[],h=>by simp[gK]at h
 |y::l,h=>by
  unfold gK at h ⊢;split
  ·rename_i c;exact c
  ·rename_i c;rw[if_neg c]at h;simp only[List.length_cons]at h;exact E2 x l jB
def j5(x:aw)(l:List aw):(hZ x l).length=l.length+1:=by have:=yk x l;rw[y0,List.length_append,List.length_cons,List.length_take,List.length_drop];omega
theorem vF:∀(b a:List aw),(gP a b).length=a.length+b.length
 |[],a=>rfl
 |x::b,a=>by show(gP (hZ x a) b).length=_;rw[vF b,j5];simp only[List.length_cons];omega
theorem yg{x y:aw}:∀{l:List aw},y∈hZ x l<->y=x\/y∈l
 |[]=>by simp[hZ]
 |z::l=>by
  unfold hZ;split
  ·simp
  ·rw[List.mem_cons,yg,List.mem_cons];constructor
   ·rintro(h|h|h)
    ·exact .inr (.inl h)
    ·exact .inl h
    ·exact .inr (.inr h)
   ·rintro(h|h|h)
    ·exact .inr (.inl h)
    ·exact .inl h
    ·exact .inr (.inr h)
theorem CU{y:aw}:∀{b a:List aw},y∈gP a b<->y∈a\/y∈b
 |[],a=>by simp[gP]
 |x::b,a=>by
  show y∈gP (hZ x a) b<->_;rw[CU,yg,List.mem_cons];constructor
  ·rintro((h|h)|h)
   ·exact .inr (.inl h)
   ·exact .inl h
   ·exact .inr (.inr h)
  ·rintro(h|h|h)
   ·exact .inl (.inr h)
   ·exact .inl (.inl h)
   ·exact .inr h
theorem zd(x:aw):∀{l:List aw},mb l->mb (hZ x l)
 |[],_=>⟨fun y h=>(by cases h),trivial⟩
 |z::l,h=>by
  unfold hZ;split
  ·rename_i c;refine⟨fun y hy=>?_,h⟩;cases hy;omega
  ·rename_i c;refine⟨fun y hy=>?_,zd x h.2⟩;cases l with
   |nil=>cases hy;omega
   |cons w l=>
    unfold hZ at hy;split at hy
    ·cases hy;omega
    ·have h3:=h.1 w rfl;cases hy;exact h3
theorem Cr:∀{b a:List aw},mb a->mb (gP a b)
 |[],_,h=>h
 |x::b,a,h=>Cr (b:=b) (zd x h)
theorem Br{x:aw}{t:Int}(h:t<x.at_):∀l,dh (hZ x l) t=dh l t
 |[]=>by unfold dh hZ;rw[List.filter_cons_of_neg jF]
 |z::l=>by
  have ih:=Br h l;unfold hZ;split
  ·unfold dh;rw[List.filter_cons_of_neg jF]
  ·unfold dh at ih ⊢;rw[List.filter_cons,List.filter_cons,ih]
def KP{a t:Int}(h:t<=a)(l:List aw):dh (dh l a) t=dh l t:=by
 unfold dh;rw[List.filter_filter];congr 1
 funext x
 by_cases c:x.at_<=t
 ·simp[c];omega
 ·simp[c]
def vm{l:List aw}{t:Int}{x:aw}(h:x∈dh l t):x∈l/\x.at_<=t:=by unfold dh at h;rw[List.mem_filter]at h;exact⟨h.1,by simpa using h.2⟩
theorem GO{x:aw}:∀{l:List aw},(∀y∈l,y.at_<=x.at_)->hZ x l=l++[x]
 |[],_=>rfl
 |z::l,h=>by unfold hZ;rw[if_neg (by have:=h z jE;omega),GO fun y hy=>h y (by simp[hy])];rfl
theorem EP{x:aw}:∀{l:List aw},mb (x::l)->∀y∈l,x.at_<=y.at_
 |[],_,y,h=>by cases h
 |z::l,h,y,hy=>by
  have h1:=h.1 z rfl;rcases List.mem_cons.1 hy with rfl|hy
  ·exact h1
  ·have:=EP h.2 y hy;omega
def NA{x:aw}{l:List aw}(h:mb l)(h2:∀y∈l,x.at_<=y.at_):mb (x::l):=
 ⟨fun y hy=>h2 y (by cases l with|nil=>cases hy|cons z l=>cases hy;simp),h⟩
theorem BN{t:Int}:∀{l:List aw},mb l->mb (dh l t)
 |[],_=>trivial
 |x::l,h=>by
  have ih:=BN (t:=t) h.2;unfold dh at ih ⊢;rw[List.filter_cons];split
  ·exact NA ih fun y hy=>EP h y ((List.mem_filter.1 hy).1)
  ·exact ih
variable{A:US}{k:Nat}
def RT{S:US}{y:UU}(hk:k<A.length)(hS:0<S.length):eH (eH (A++S) (k+1) (A.drop k)) k [y]=A.take k++y::A.drop k++S.drop 1:=by
 unfold eH;simp only[List.length_drop,List.length_cons,List.length_nil];have h1:(A++S).take (k+1)=A.take (k+1):=by rw[List.take_append_of_le_length jB]
 have h2:(A++S).drop (k+1+(A.length-k))=S.drop 1:=by rw[show k+1+(A.length-k)=A.length+1 from jB,<-List.drop_drop,List.drop_left]
 have h3:(A.take (k+1)).length=k+1:=by rw[List.length_take];omega
 rw[h1,h2,List.append_assoc (A.take (k+1)),List.take_append_of_le_length (l₁:=A.take (k+1)) jB,List.take_take,Nat.min_eq_left jB];rw[show k+(0+1)=k+1 from jB];have h4:(A.take (k+1)++(A.drop k++S.drop 1)).drop (k+1)=A.drop k++S.drop 1:=by have:=List.drop_left (l₁:=A.take (k+1)) (l₂:=A.drop k++S.drop 1);rwa [h3]at this
 rw[h4];simp
def Mw{R:US}{y:UU}(hk:k<A.length)(hR:R.length=A.length+1-k):eH (eH (A.take k++R) k [y]) (k+1) (A.drop k)=A.take k++y::A.drop k:=by
 have h3:(A.take k).length=k:=by rw[List.length_take];omega
 unfold eH;simp only[List.length_drop,List.length_cons,List.length_nil];have h4:(A.take k++R).take k=A.take k:=by have:=List.take_left (l₁:=A.take k) (l₂:=R);rwa [h3]at this
 have h5:(A.take k++R).drop (k+(0+1))=R.drop 1:=by rw[show k+(0+1)=k+1 from jB,<-List.drop_drop];have:=List.drop_left (l₁:=A.take k) (l₂:=R);rw[h3]at this;rw[this]
 rw[h4,h5];have h6:(A.take k++[y]++R.drop 1).take (k+1)=A.take k++[y]:=by have:=List.take_left (l₁:=A.take k++[y]) (l₂:=R.drop 1);rwa [List.length_append,h3,List.length_cons,List.length_nil]at this
 have h7:(A.take k++[y]++R.drop 1).drop (k+1+(A.length-k))=[]:=by apply List.drop_of_length_le;rw[List.length_append,List.length_append,h3,List.length_drop];simp only[List.length_cons,List.length_nil];omega
 rw[h6,h7];simp
def ta:U4:=[.int .i64 0,.string ⟨#[]⟩,.int .i64 0,.int .i64 0,.string ⟨#[]⟩]
abbrev CQ:UU:=List.map AV.raw ta
theorem Ji(q:U5):∀l:List aw,aY q (l.map bj).flatten=true
 |[]=>rfl
 |x::l=>by rw[List.map_cons,List.flatten_cons,yI,Ji q l,E6];rfl
theorem Ef{x:aw}:∀{L:List aw} {k:Nat},(∀j,j<k->¬x.at_<(nth L j).at_)->k<L.length->x.at_<(nth L k).at_->gK x L=k
 |[],k,_,h,_=>by simp at h
 |y::L,0,_,_,h=>by exact if_pos h
 |y::L,k+1,h1,h2,h3=>by show(if x.at_<y.at_ then 0 else gK x L+1)=_;rw[if_neg (show¬x.at_<y.at_ from h1 0 jB),Ef (L:=L) (k:=k) (fun j hj=>h1 (j+1) jB) (by simpa using h2) h3]
theorem I5{x:aw}:∀{L:List aw},(∀j,j<L.length->¬x.at_<(nth L j).at_)->gK x L=L.length
 |[],_=>rfl
 |y::L,h=>by show(if x.at_<y.at_ then 0 else gK x L+1)=_;rw[if_neg (show¬x.at_<y.at_ from h 0 jE),I5 (L:=L) (fun j hj=>h (j+1) jF)];rfl
def sN(x:aw)(L:List aw):Int:=if gK x L<L.length then(gK x L:Int)else -1
def Em(l:List aw):∀(a:List aw) (x:aw),gP l (a++[x])=hZ x (gP l a):=fun a=>by
 induction a generalizing l with
 |nil=>intro x;rfl
 |cons y a ih=>intro x;exact ih (hZ y l) x
def jt(t:Int):List aw->Nat
 |[]=>0
 |y::l=>if t<y.at_ then 0 else jt t l+1
theorem HJ{t:Int}:∀{L:List aw} {k:Nat},(∀j,j<k->¬t<(nth L j).at_)->k<L.length->t<(nth L k).at_->jt t L=k
 |[],k,_,h,_=>by simp at h
 |y::L,0,_,_,h=>if_pos h
 |y::L,k+1,h1,h2,h3=>by show(if t<y.at_ then 0 else jt t L+1)=_;rw[if_neg (show¬t<y.at_ from h1 0 jB),HJ (L:=L) (k:=k) (fun j hj=>h1 (j+1) jB) (by simpa using h2) h3]
theorem El{t:Int}:∀{L:List aw},(∀j,j<L.length->¬t<(nth L j).at_)->jt t L=L.length
 |[],_=>rfl
 |y::L,h=>by show(if t<y.at_ then 0 else jt t L+1)=_;rw[if_neg (show¬t<y.at_ from h 0 jE),El (L:=L) (fun j hj=>h (j+1) jF)];rfl
def tu(t:Int)(L:List aw):Int:=if jt t L<L.length then(jt t L:Int)else -1
theorem Eh(t:Int):∀L,jt t L<=L.length
 |[]=>Nat.le_refl _
 |y::l=>by
  unfold jt;split
  ·exact Nat.zero_le _
  ·have:=Eh t l;simp only[List.length_cons];omega
theorem BB(t:Int):∀L:List aw,dh (L.take (jt t L)) t=L.take (jt t L)
 |[]=>rfl
 |y::l=>by
  unfold jt;split
  ·rfl
  ·rename_i c;have ih:=BB t l;unfold dh at ih ⊢;rw[List.take_succ_cons,List.filter_cons_of_pos (by simpa using Int.not_lt.1 c),ih]
theorem GB{t:Int}:∀{L:List aw},jt t L<L.length->t<(nth L (jt t L)).at_
 |[],h=>by simp[jt]at h
 |y::l,h=>by
  unfold jt at h ⊢;split
  ·rename_i c;exact c
  ·rename_i c;rw[if_neg c]at h;simp only[List.length_cons]at h;exact GB (L:=l) jB
def I2(L:List aw)(x:aw)(t:Int):dh (L++[x]) t=if x.at_<=t then dh L t++[x]else dh L t:=by
 unfold dh;rw[List.filter_append];split
 ·rename_i h;rw[List.filter_cons_of_pos (by simpa using h)];rfl
 ·rename_i h;rw[List.filter_cons_of_neg (by simpa using h)];simp
def yv(L:List aw)(t:Int):(dh L t).length<=L.length:=List.length_filter_le _ _
def Du{α:Type}[Inhabited α]{l:List α}{n:Nat}(h:k<n):nth (l.take n) k=nth l k:=by unfold nth;rw[List.getD_eq_getElem?_getD,List.getElem?_take,if_pos h,List.getD_eq_getElem?_getD]
def iD(name:U0)(ty:Int):List bB->Int->Int
 |[],_=>-1
 |v::l,i=>if v.name=name/\v.ty=ty then i else iD name ty l (i+1)
theorem FK(name:U0)(ty:Int):∀(l:List bB) (i:Int),0<=i->(iD name ty l i=-1\/(i<=iD name ty l i/\iD name ty l i<i+l.length))
 |[],i,_=>.inl rfl
 |v::l,i,h=>by
  unfold iD;split
  ·right;simp only[List.length_cons];omega
  ·rcases FK name ty l (i+1) jB with e|e
   ·exact .inl e
   ·right;simp only[List.length_cons];omega
theorem yN(name:U0)(ty:Int):∀(l:List bB) (i:Nat),0<=iD name ty l (i:Int)->∃k:Nat,iD name ty l (i:Int)=(i:Int)+k/\k<l.length/\((nth l k).name=name/\(nth l k).ty=ty)/\∀j,j<k->¬((nth l j).name=name/\(nth l j).ty=ty)
 |[],i,h=>by unfold iD at h;omega
 |v::l,i,h=>by
  unfold iD at h ⊢;by_cases c:v.name=name/\v.ty=ty
  ·rw[if_pos c];exact⟨0,jB,jE,c,fun j hj=>jB⟩
  ·rw[if_neg c]at h ⊢;obtain⟨k,e,hk,g,f⟩:=yN name ty l (i+1) (by push_cast;exact h);refine⟨k+1,by push_cast at e ⊢;omega,by simp;omega,g,fun j hj=>?_⟩;cases j with
   |zero=>exact c
   |succ j=>exact f j jB
theorem Ia(name:U0)(ty:Int):∀(l:List bB) (i:Nat),iD name ty l (i:Int)<0->∀j,j<l.length->¬((nth l j).name=name/\(nth l j).ty=ty)
 |[],i,h,j,hj=>by simp at hj
 |v::l,i,h,j,hj=>by
  unfold iD at h;by_cases c:v.name=name/\v.ty=ty
  ·rw[if_pos c]at h;omega
  ·rw[if_neg c]at h;cases j with
   |zero=>exact c
   |succ j=>exact Ia name ty l (i+1) (by push_cast;exact h) j (by simpa using hj)
section
variable {σ:Type}(tm:σ->Int)(st:σ->σ)(se:σ->U0->aj->Option σ)(E:List aw)
def cL:Nat->σ->Nat->Bool->σ×Nat×Bool
 |0,s,k,b=>(s,k,b)
 |n+1,s,k,b=>
  if b=false/\k<E.length/\(nth E k).at_=tm s then
   match se s (nth E k).name (nth E k).v with
   |some s'=>cL n s' (k+1) false
   |none=>(s,k,true)
  else(s,k,b)
def eN(t:Int):Nat->σ->Nat->Bool->σ×Nat×Bool
 |0,s,k,b=>(s,k,b)
 |n+1,s,k,b=>
  if tm (cL tm se E (E.length+1) s k b).1=t then cL tm se E (E.length+1) s k b
  else if tm (st (cL tm se E (E.length+1) s k b).1)=tm (cL tm se E (E.length+1) s k b).1 then(st (cL tm se E (E.length+1) s k b).1,(cL tm se E (E.length+1) s k b).2)
  else eN t n (st (cL tm se E (E.length+1) s k b).1) (cL tm se E (E.length+1) s k b).2.1 (cL tm se E (E.length+1) s k b).2.2
def nt(t:Int)(r:σ×Nat×Bool):Int:=if r.2.1<E.length/\(nth E r.2.1).at_<=t then r.2.1+1 else 0
end
def eQ(t:Int):Int:=min (max t 0) 200
section
variable {σ:Type}{tm:σ->Int}{st:σ->σ}{se:σ->U0->aj->Option σ}{E:List aw}
structure lS(tm:σ->Int)(st:σ->σ)(se:σ->ByteArray->aj->Option σ)(E:List aw)(I:σ->Prop):Prop where
 se:∀s k s',I s->k<E.length->se s (nth E k).name (nth E k).v=some s'->I s'/\tm s'=tm s
 st:∀s,I s->tm s<200->I (st s)/\(tm (st s)=tm s\/tm (st s)=tm s+1)
 tm:∀s,I s->0<=tm s
variable {I:σ->Prop}
theorem qU(h:lS tm st se E I):∀(n:Nat) (s:σ) (k:Nat) (b:Bool),I s->I (cL tm se E n s k b).1/\tm (cL tm se E n s k b).1=tm s/\k<=(cL tm se E n s k b).2.1/\(k<=E.length->(cL tm se E n s k b).2.1<=E.length)
 |0,s,k,b,hs=>⟨hs,rfl,Nat.le_refl _,fun h=>h⟩
 |n+1,s,k,b,hs=>by
  unfold cL;split
  ·rename_i hc;split
   ·rename_i s' Yu;obtain⟨a1,a2⟩:=h.se s k s' hs hc.2.1 Yu;obtain⟨b1,b2,b3,b4⟩:=qU h n s' (k+1) false a1;exact⟨b1,b2.trans a2,jB,fun _=>b4 jB⟩
   ·exact⟨hs,rfl,Nat.le_refl _,fun h=>h⟩
  ·exact⟨hs,rfl,Nat.le_refl _,fun h=>h⟩
theorem xN(h:lS tm st se E I){t:Int}(ht:t<=200):∀(n:Nat) (s:σ) (k:Nat) (b:Bool),I s->tm s<=t->k<=E.length->I (eN tm st se E t n s k b).1/\(eN tm st se E t n s k b).2.1<=E.length/\tm (eN tm st se E t n s k b).1<=t/\k<=(eN tm st se E t n s k b).2.1
 |0,s,k,b,hs,h1,hk=>⟨hs,hk,h1,Nat.le_refl _⟩
 |n+1,s,k,b,hs,h1,hk=>by
  obtain⟨a1,a2,a3,a4⟩:=qU h (E.length+1) s k b hs;unfold eN;split
  ·exact⟨a1,a4 hk,jB,a3⟩
  rename_i Wg;have D':tm (cL tm se E (E.length+1) s k b).1<200:=jB;obtain⟨c1,c2⟩:=h.st _ a1 D';split
  ·exact⟨c1,a4 hk,by show tm (st (cL tm se E (E.length+1) s k b).1)<=t;omega,a3⟩
  ·rename_i ha6;obtain⟨d1,d2,d3,d4⟩:=xN h ht n _ (cL tm se E (E.length+1) s k b).2.1 (cL tm se E (E.length+1) s k b).2.2 c1 jB (a4 hk);exact⟨d1,d2,d3,jB⟩
theorem HI{K:Nat}(hK:K<=E.length):∀(n m:Nat) (s:σ) (k:Nat) (b:Bool),k<=K->K-k<n->K-k<m->(cL tm se E n s k b).2.1<=K->(cL tm se (E.take K) m s k b).1=(cL tm se E n s k b).1/\(cL tm se (E.take K) m s k b).2.1=(cL tm se E n s k b).2.1/\((cL tm se E n s k b).2.1<K->(cL tm se (E.take K) m s k b).2.2=(cL tm se E n s k b).2.2)
 |0,_,s,k,b,_,h,_,_=>by omega
 |_,0,s,k,b,_,_,h,_=>jB
 |n+1,m+1,s,k,b,hk,hn,hm,Vd=>by
  have hl:(E.take K).length=K:=by rw[List.length_take];omega
  unfold cL at Vd ⊢;rw[hl];by_cases hc:b=false/\k<E.length/\(nth E k).at_=tm s
  ·rw[if_pos hc]at Vd ⊢;by_cases hkK:k<K
   ·have e:nth (E.take K) k=nth E k:=Du hkK;rw[e,if_pos ⟨hc.1,hkK,hc.2.2⟩];cases hs:se s (nth E k).name (nth E k).v with
    |none=>exact⟨rfl,rfl,fun _=>rfl⟩
    |some s'=> rw[hs]at Vd;exact HI hK n m s' (k+1) false jB jB jB Vd
   ·rw[if_neg (fun h=>hkK h.2.1)];cases hs:se s (nth E k).name (nth E k).v with
    |none=>exact⟨rfl,rfl,fun h=>(hkK h).elim⟩
    |some s'=>
     rw[hs]at Vd;have Vd:(cL tm se E n s' (k+1) false).2.1<=K:=Vd;have:∀(n:Nat) (s:σ) (k:Nat) (b:Bool),k<=(cL tm se E n s k b).2.1:=fun n=>by
      induction n with
      |zero=>intro s k b;exact Nat.le_refl _
      |succ n ih=>
       intro s k b;unfold cL;split
       ·split
        ·rename_i s2 _;have:=ih s2 (k+1) false;omega
        ·exact Nat.le_refl _
       ·exact Nat.le_refl _
     have:=this n s' (k+1) false;omega
  ·rw[if_neg hc];rw[if_neg hc]at Vd;rw[if_neg (fun h=>hc ⟨h.1,jB,by rw[<-h.2.2,Du h.2.1]⟩)];exact⟨rfl,rfl,fun _=>rfl⟩
def Iv:∀(n:Nat) (s:σ) (k:Nat) (b:Bool) (t:Int),k<=(eN tm st se E t n s k b).2.1:=fun n=>by
 have hs:∀(n:Nat) (s:σ) (k:Nat) (b:Bool),k<=(cL tm se E n s k b).2.1:=fun n=>by
  induction n with
  |zero=>intro s k b;exact Nat.le_refl _
  |succ n ih=>
   intro s k b;unfold cL;split
   ·split
    ·rename_i s2 _;have:=ih s2 (k+1) false;omega
    ·exact Nat.le_refl _
   ·exact Nat.le_refl _
 induction n with
 |zero=>intro s k b t;exact Nat.le_refl _
 |succ n ih=>
  intro s k b t;unfold eN;have:=hs (E.length+1) s k b;split
  ·exact this
  split
  ·exact this
  ·have:=ih (st (cL tm se E (E.length+1) s k b).1) (cL tm se E (E.length+1) s k b).2.1 (cL tm se E (E.length+1) s k b).2.2 t;omega
theorem I0{K:Nat}(hK:K<=E.length){t:Int}:∀(n:Nat) (s:σ) (k:Nat) (b b':Bool),k<=K->(k<K->b'=b)->(eN tm st se E t n s k b).2.1<=K->(eN tm st se (E.take K) t n s k b').1=(eN tm st se E t n s k b).1/\(eN tm st se (E.take K) t n s k b').2.1=(eN tm st se E t n s k b).2.1
 |0,s,k,b,b',_,_,_=>⟨rfl,rfl⟩
 |n+1,s,k,b,b',hk,hb,Vd=>by
  have hl:(E.take K).length=K:=by rw[List.length_take];omega
  have hS:(cL tm se (E.take K) ((E.take K).length+1) s k b').1=(cL tm se E (E.length+1) s k b).1/\(cL tm se (E.take K) ((E.take K).length+1) s k b').2.1=(cL tm se E (E.length+1) s k b).2.1/\((cL tm se E (E.length+1) s k b).2.1<K->(cL tm se (E.take K) ((E.take K).length+1) s k b').2.2=(cL tm se E (E.length+1) s k b).2.2):=by
   have YH:(cL tm se E (E.length+1) s k b).2.1<=K:=by
    unfold eN at Vd;split at Vd
    ·exact Vd
    split at Vd
    ·exact Vd
    ·exact Nat.le_trans (Iv _ _ _ _ _) Vd
   by_cases hkK:k<K
   ·rw[hb hkK,hl];exact HI hK _ _ s k b hk jB jB YH
   ·have hkK:k=K:=jB;subst hkK;have e1:cL tm se (E.take k) ((E.take k).length+1) s k b'=(s,k,b'):=by
     unfold cL;rw[if_neg (fun h=>by have:=h.2.1;omega)]
    have e2:(cL tm se E (E.length+1) s k b).1=s/\(cL tm se E (E.length+1) s k b).2.1=k:=by
     unfold cL at YH ⊢;split
     ·rename_i hc;rw[if_pos hc]at YH;cases hs:se s (nth E k).name (nth E k).v with
      |none=>exact⟨rfl,rfl⟩
      |some s'=>
       rw[hs]at YH;have h3:∀(n:Nat) (s:σ) (k:Nat) (b:Bool),k<=(cL tm se E n s k b).2.1:=fun n=>by
        induction n with
        |zero=>intro s k b;exact Nat.le_refl _
        |succ n ih=>
         intro s k b;unfold cL;split
         ·split
          ·rename_i s2 _;have:=ih s2 (k+1) false;omega
          ·exact Nat.le_refl _
         ·exact Nat.le_refl _
       have:=h3 E.length s' (k+1) false;have YH:(cL tm se E E.length s' (k+1) false).2.1<=k:=YH;omega
     ·exact⟨rfl,rfl⟩
    rw[e1,e2.1,e2.2];exact⟨rfl,rfl,fun h=>jB⟩
  obtain⟨h1,h2,h3⟩:=hS;unfold eN at Vd ⊢;rw[h1];split
  ·exact⟨h1,h2⟩
  ·rename_i Wg;rw[if_neg Wg]at Vd;split
   ·exact⟨rfl,h2⟩
   ·rename_i ha6;rw[if_neg ha6]at Vd;rw[h2];have hbK:(cL tm se E (E.length+1) s k b).2.1<=K:=Nat.le_trans (Iv _ _ _ _ _) Vd;exact I0 hK n _ _ _ _ hbK h3 Vd
end
end Go.Gd
namespace Go.Proofs.YtjpcgmjaipfgdaaGreatDoor
open Go Go.Gd Tryz
def Ij(l:List aw):Go.Gd.Good 5 (l.map bj):=fun c hc=>by obtain⟨y,_,rfl⟩:=List.mem_map.1 hc;exact⟨rfl,rfl⟩
def PL(l:List aw)(x:aw)(k:Nat)(hk:k<=l.length)(hl:l.length<=1000)(n:Nat)(hn:n=l.length):af prog 131 [.rs 1 n 5 n,rI k,.sl true 5 [bj x] []] [(1,.aJ 56 5 (l.map bj))] (fun r l'=>r=.rs 1 (n+1) 5 (n+1)/\l'=[(1,.aJ 56 5 ((l.take k++x::l.drop k).map bj))]):=by
 have Xe:(l.map bj).length=n:=by rw[List.length_map,hn]
 by_cases hkn:k=n
 ·subst hkn;have e:l.take k++x::l.drop k=l++[x]:=by rw[hn,List.take_length,List.drop_length]
  rw[e,List.map_append];refine aQ func131 ntmps131 ?_;refine S ?_
  (have W:=Xe;repeat' (first|refine ar fun K hK=>?_|refine av ?_|(refine hK _ _ ?_;clear hK K)|(refine au ?_ ?_<;>intro hc<;>try exact jz)|refine aq ?_|exact jI|(clear hK K)))
  (refine cd [.tmp 6] ?_ ?_<;>(try simp only[go_sem]))
 ·have XY:(l.take k++x::l.drop k).map bj=(l.map bj).take k++bj x::(l.map bj).drop k:=by rw[List.map_append,List.map_cons,List.map_take,List.map_drop]
  have Y8:(l.drop k).map bj=(l.map bj).drop k:=List.map_drop;have hg:=Ij (l.drop k);have VN:Go.Gd.Good 5 [bj x]:=Ij [x];rw[Y8]at hg;have hdl:((l.map bj).drop k).length=n-k:=by rw[List.length_drop,Xe]
  have hkI:¬(k:Int)=(n:Int):=jB;have haa:∀j:Nat,1<=j->Nat.min 1 j=[bj x].length:=fun j h=>Nat.min_eq_left h
  have hac:∀j i:Nat,(j=n-k/\n-k<=i)\/(i=n-k/\n-k<=j)->Nat.min j i=((l.map bj).drop k).length:=fun j i h=>by
   rw[hdl];rcases h with⟨h1,h2⟩|⟨h1,h2⟩
   ·rw[h1];exact Nat.min_eq_left h2
   ·rw[h1];exact Nat.min_eq_right h2
  refine af.xm (i:=1) (css:=l.map bj) (X:=(l.take k++x::l.drop k).map bj) (l:=[(1,.aJ 56 5 (l.map bj))]) 9 jB rfl Xe.symm (fun j r h1 h2=>?_) (by rw[List.length_map,List.length_append,List.length_cons,List.length_take,List.length_drop];omega) (Ji _ _) (fun y hy=>by obtain⟨z,_,rfl⟩:=List.mem_map.1 hy;rfl) rfl ?_ fun c hc=>?_
  ·simp only[aC]at h1;split at h1
   ·rename_i e;exact(h2 e).elim
   ·cases h1
  ·have XE:(n:Int)+1>(n:Int):=jB;show af _ _ _ [(1,.aJ 56 5 (l.map bj))] (fun r l'=>r=.rs 9 (n+1) 5 (n+1)/\l'=[(1,.aJ 56 5 (l.map bj)),(9,.aJ 56 5 ((l.take k++x::l.drop k).map bj))]);rw[XY];have Yf:=Mw (A:=l.map bj) (R:=List.replicate (n+1-k) CQ) (y:=bj x) (k:=k) jB (by rw[List.length_replicate,Xe]);have WS:((l.map bj).drop k).take (n-k)=(l.map bj).drop k:=List.take_of_length_le jB;have h9:n+1=((l.map bj).take k++List.replicate (n+1-k) CQ).length:=by rw[List.length_append,List.length_take,List.length_replicate,Xe];omega
   have h9':n+1=(eH ((l.map bj).take k++List.replicate (n+1-k) CQ) k [bj x]).length:=by rw[vw _ jB,<-h9];simp only[List.length_cons,List.length_nil];omega
   generalize l.map bj=A at*;refine aQ func131 ntmps131 ?_;refine S ?_
   (have W:=jA Xe (jA hkI (XE));repeat' (first|refine ar fun K hK=>?_|refine av ?_|(with_reducible refine gR 11 ?_);refine dE 11 (bf 0 9) mixed ?_|(refine hK _ _ ?_;clear hK K)|(refine au ?_ ?_<;>intro hc<;>try exact jz)|(refine T9 (zs:=ta) (j:=9) (k:=n+1-k) (n:=n+1) jG ⟨.i64,jG⟩ jG jG rfl jC rfl Xe.symm jB jB (by simp only[go_sem,room];omega) jB rfl jB ?_;refine S ?_)|(refine zp (k:=1) (ys:=[bj x]) (zs:=ta) rfl h9 jG jG jG rfl jC jB jB (JU (c:=True) rfl trivial VN) VN (haa _ jB) ?_;refine S ?_)|(refine zp (k:=n-k) (ys:=A.drop k) (zs:=ta) rfl h9' jG jG jG rfl jC jB jB (fun w vx h1 h2=>by have:=FM (n:=n-k) (css:=A) rfl Xe.symm jB jl w vx h1 h2;rwa [WS]at this) hg (hac _ _ jB) ?_;refine S ?_)|refine aq ?_|exact jI|(clear hK K)))
   rw[Yf]
   (refine cd [.tmp 6] ?_ ?_<;>(try simp only[go_sem]))
  ·have XE:¬(n:Int)+1>(c:Int):=jB;show af _ _ _ [(1,.aJ 56 5 (l.map bj++iF 5 (c-n)))] (fun r l'=>r=.rc 1 c 5 (n+1)/\l'=[(1,.aJ 56 5 ((l.take k++x::l.drop k).map bj++iF 5 (c-(n+1))))]);rw[XY];have hSl:(iF 5 (c-n)).length=c-n:=Cm;have hS1:(iF 5 (c-n)).drop 1=iF 5 (c-(n+1)):=by unfold iF;rw[List.drop_replicate];congr 1
   have Yf:=RT (A:=l.map bj) (S:=iF 5 (c-n)) (y:=bj x) (k:=k) jB jB;rw[hS1]at Yf;have h8:c=(l.map bj++iF 5 (c-n)).length:=by rw[List.length_append,Xe,hSl];omega
   have h9:c=(eH (l.map bj++iF 5 (c-n)) (k+1) ((l.map bj).drop k)).length:=by rw[vw _ jB,<-h8,hdl];omega
   have WS:((l.map bj++iF 5 (c-n)).drop k).take (n-k)=(l.map bj).drop k:=by rw[List.drop_append_of_le_length jB,List.take_append_of_le_length jB,List.take_of_length_le jB]
   have Wk:n+1<=c:=jB;generalize iF 5 (c-(n+1))=Sq at*;generalize iF 5 (c-n)=Sp at*;generalize l.map bj=A at*;refine aQ func131 ntmps131 ?_;refine S ?_
   (have W:=jA Xe (jA hkI (XE));repeat' (first|refine ar fun K hK=>?_|refine av ?_|(with_reducible refine gR 15 ?_);refine dE 15 (bf 0 9) mixed ?_|(refine hK _ _ ?_;clear hK K)|(refine au ?_ ?_<;>intro hc<;>try exact jz)|(refine TN ?_;refine Rf (t:=50) (fn:=Tryz.f179) (tR:=4) func179 jG jG jG jG jG jG rfl h8 jB jB (Nat.zero_lt_succ 0) ?_;refine S ?_)|(refine zp (k:=n+1-k) (ys:=A.drop k) (zs:=ta) rfl h8 jG jG jG rfl jC jB jB (fun w vx h1 h2=>by have:=FM (n:=n-k) (css:=A++Sp) rfl h8 jB jB w vx h1 h2;rwa [WS]at this) hg (hac _ _ jB) ?_;refine S ?_)|(refine zp (k:=1) (ys:=[bj x]) (zs:=ta) rfl h9 jG jG jG rfl jC jB jB (JU (c:=True) rfl trivial VN) VN (haa _ jB) ?_;refine S ?_)|refine aq ?_|exact jI|(clear hK K)))
   rw[Yf]
   (refine cd [.tmp 6] ?_ ?_<;>(try simp only[go_sem]))
def Dj(l:List aw)(hl:l.length<=1000)(i:Nat):af prog 56 [aM bj 5 l] [] (fun r l'=>r=.rs i l.length 5 l.length/\l'=[(i,.aJ 56 5 (l.map bj))]):=by
 refine aQ func56 ntmps56 ?_
 (repeat' (first|refine ar fun K hK=>?_|refine av ?_|(refine hK _ _ ?_;clear hK K)|(refine au ?_ ?_<;>intro hc<;>try exact jz)|(with_reducible refine fun(b:Bool) hb=>?_)|refine sV i ?_|refine aq ?_|exact jI|(clear hK K)))
 ·have VJ:l=[]:=by simpa using hb hc
  subst VJ;exact zi i 56 5 jC [.tmp 2] rfl rfl trivial
 ·(refine cd [.tmp 2] ?_ ?_<;>(try simp only[go_sem]))
def O8(y x:aw):af prog 130 [.agg (bj y),.pt 6 0 0 0] [(6,.var 56 (bj x))] (fun r l=>r=rB (decide (x.at_<y.at_))/\l=[(6,.var 56 (bj x))]):=by
 refine aQ func130 ntmps130 ?_;refine S ?_
 (repeat' (first|refine ar fun K hK=>?_|refine av ?_|(refine hK _ _ ?_;clear hK K)|(refine au ?_ ?_<;>intro hc<;>try exact jz)|refine bx 9 ?_|refine aq ?_|exact jI|(clear hK K)))
 (refine bq [.tmp 3] ?_;try simp only[go_sem])
def Pj(x:aw)(L:List aw)(hL:L.length<=1000)(n:Nat)(hn:n=L.length):af prog 129 [.rs 1 n 5 n,.eW 130 [.pt 6 0 0 0]] [(1,.aJ 56 5 (L.map bj)),(6,.var 56 (bj x))] (fun r l=>r=rI (sN x L)/\l=[(1,.aJ 56 5 (L.map bj)),(6,.var 56 (bj x))]):=by
 suffices key:∀z,sN x L=z->af prog 129 [.rs 1 n 5 n,.eW 130 [.pt 6 0 0 0]] [(1,.aJ 56 5 (L.map bj)),(6,.var 56 (bj x))] (fun r l=>r=rI z/\l=[(1,.aJ 56 5 (L.map bj)),(6,.var 56 (bj x))]) from key _ rfl
 intro z hz;have Xe:(L.map bj).length=n:=by rw[List.length_map,hn]
 refine aQ func129 ntmps129 ?_;refine S ?_
 (repeat' (first|refine ar fun K hK=>?_|refine av ?_|(refine hK _ _ ?_;clear hK K)|(refine au ?_ ?_<;>intro hc<;>try exact jz)|refine aq ?_|exact jI|(clear hK K)))
 have Vc:=hK;clear hK;refine dJ (S:=Nat) [(4,2),(8,11)] (fun k=>k<=n/\∀j,j<k->¬x.at_<(nth L j).at_) (fun k=>[(8,rI k)]) (fun _=>⟨[1,6],[(1,.aJ 56 5 (L.map bj)),(6,.var 56 (bj x))]⟩) (fun k=>n-k) 0 ⟨Nat.zero_le _,fun j h=>jB⟩ (dK rfl bU) ?_;rintro k ⟨hk,Vj⟩ Kr Vb;by_cases D':k<n
 ·have Vy:=O8 (nth L k) x;have We:k<L.length:=jB;by_cases c:x.at_<(nth L k).at_
  ·rw[decide_eq_true c]at Vy;have hp:=Ef Vj We c;have:z=(k:Int):=by rw[<-hz];unfold sN;rw[hp,if_pos We]
   subst this;refine S ?_
   (have W:=jA D' (jA Xe (We));repeat' (first|refine ar fun K hK=>?_|refine av ?_|(refine hK _ _ ?_;clear hK K)|(refine au ?_ ?_<;>intro hc<;>try exact jz)|(refine cl Vy ?_)|refine aq ?_|exact jI|(clear hK K)))
   (refine bq [.tmp 4] ?_;try simp only[go_sem])
  ·rw[decide_eq_false c]at Vy;refine S ?_
   (have W:=jA D' (jA Xe (We));repeat' (first|refine ar fun K hK=>?_|refine av ?_|(refine hK _ _ ?_;clear hK K)|(refine au ?_ ?_<;>intro hc<;>try exact jz)|(refine cl Vy ?_)|refine aq ?_|exact jI|(clear hK K)))
   exact Vb _ _ (dT (k+1) ⟨jB,fun j hj=>by
    by_cases e:j<k
    ·exact Vj j e
    ·rw[show j=k from jB];exact c⟩ (by show n-(k+1)<n-k;omega) rfl bU)
 ·have hp:=I5 (x:=x) (L:=L) fun j hj=>Vj j jB
  have:z=-1:=by rw[<-hz];unfold sN;rw[hp,if_neg (Nat.lt_irrefl _)]
  subst this;refine S ?_
  (have W:=jA D' Xe;repeat' (first|refine ar fun K hK=>?_|refine av ?_|(refine hK _ _ ?_;clear hK K)|(refine au ?_ ?_<;>intro hc<;>try exact jz)|refine Vc _ _ ?_|refine aq ?_|exact jI|(clear hK K)))
  (refine bq [.tmp 4] ?_;try simp only[go_sem])
def G9(l all:List aw)(h1:l.length<=500)(h2:all.length<=500):aD prog 76 [aM bj 5 l,aM bj 5 all] (aM bj 5 (gP l all)):=by
 have Vf:=Dj l jB 1;refine cB func76 ntmps76 ?_
 (repeat' (first|refine ar fun K hK=>?_|refine av ?_|(refine hK _ _ ?_;clear hK K)|(refine au ?_ ?_<;>intro hc<;>try exact jz)|refine cm (Vf) ?_|refine aq ?_|exact jI|(clear hK K)))
 have Vc:=hK;clear hK;refine dJ (S:=Nat) [(0,1),(6,2),(12,17)] (fun k=>k<=all.length) (fun k=>[(0,.rs 1 (l.length+k) 5 (l.length+k)),(12,rI k)]) (fun k=>⟨[],[(1,.aJ 56 5 ((gP l (all.take k)).map bj))]⟩) (fun k=>all.length-k) 0 (Nat.zero_le _) (dK rfl bU) ?_;rintro k hk Kr Vb;have O':=vF (all.take k) l;rw[List.length_take,Nat.min_eq_left hk]at O';by_cases D':k<all.length
 ·have hsn:gP l (all.take (k+1))=hZ (nth all k) (gP l (all.take k)):=by rw[pj D',Em]
  have hex:(gP l (all.take (k+1))).map bj=((gP l (all.take k)).take (gK (nth all k) (gP l (all.take k)))++nth all k::(gP l (all.take k)).drop (gK (nth all k) (gP l (all.take k)))).map bj:=by rw[hsn,y0]
  generalize hx:nth all k=x at*;generalize hM:gP l (all.take k)=M at*;have XC:=Pj x M jB (l.length+k) O'.symm;have WM:=yk x M;have hpi:=PL M x (gK x M) WM jB (l.length+k) O'.symm;have Zi:((l.length+k:Nat):Int)=(l.length:Int)+k:=by push_cast;rfl
  by_cases hq:gK x M<l.length+k
  ·have hi:sN x M=(gK x M:Int):=by unfold sN;rw[jP]
   rw[hi]at XC;generalize gK x M=q at*;have hq0:¬(q:Int)<0:=jB;refine S ?_
   (have W:=jA D' (jA hq0 (hx));repeat' (first|refine ar fun K hK=>?_|refine av ?_|(refine hK _ _ ?_;clear hK K)|(refine au ?_ ?_<;>intro hc<;>try exact jz)|refine al 6 ?_|refine cm (XC) ?_|refine cm (hpi) ?_|refine aq ?_|exact jI|(clear hK K)))
   refine Vb _ _ (nz [6] (k+1) jB (by show all.length-(k+1)<all.length-k;omega) rfl Sd ?_ iQ);simp only[hex,List.map_append,List.map_cons];rfl
  ·have hi:sN x M=-1:=by unfold sN;rw[jN]
   rw[hi]at XC;have XB:gK x M=l.length+k:=jB;rw[XB]at hpi hex;refine S ?_
   (have W:=jA D' hx;repeat' (first|refine ar fun K hK=>?_|refine av ?_|(refine hK _ _ ?_;clear hK K)|(refine au ?_ ?_<;>intro hc<;>try exact jz)|refine al 6 ?_|refine cm (XC) ?_|refine cm (hpi) ?_|refine aq ?_|exact jI|(clear hK K)))
   refine Vb _ _ (nz [6] (k+1) jB (by show all.length-(k+1)<all.length-k;omega) rfl Sd ?_ iQ);simp only[hex,List.map_append,List.map_cons];rfl
 ·have Xz:k=all.length:=jB;subst Xz;rw[List.take_length]at O' ⊢;refine S ?_
  (have W:=D';repeat' (first|refine ar fun K hK=>?_|refine av ?_|(refine hK _ _ ?_;clear hK K)|(refine au ?_ ?_<;>intro hc<;>try exact jz)|refine Vc _ _ ?_|refine aq ?_|exact jI|(clear hK K)))
  refine fy [.tmp 4] ?_;exact db.row (gP l all) rfl rfl (by simp[O'])
def LF(a b:List aw)(h1:a.length<=500)(h2:b.length<=500):aD prog 74 [aM bj 5 a,aM bj 5 b] (aM bj 5 (gP a b)):=by
 have h:=G9 a b h1 h2;refine cB func74 ntmps74 ?_
 (repeat' (first|refine ar fun K hK=>?_|refine av ?_|(refine hK _ _ ?_;clear hK K)|(refine au ?_ ?_<;>intro hc<;>try exact jz)|refine cp (h) ?_|refine aq ?_|exact jI|(clear hK K)))
 (refine bq [.tmp 4] ?_;try simp only[go_sem])
def Ff(x:aw):aD prog 68 [.agg (bj x)] (rB (oi x)):=by
 have h:=uI x.v;suffices key:∀b,oi x=b->aD prog 68 [.agg (bj x)] (rB b) from key _ rfl
 intro b hb;unfold oi at hb;generalize lc x.v=m at*;have hq:(¬1<=(x.name.size:Int)/\True/\True/\True/\True)\/(1<=(x.name.size:Int)/\¬(x.name.size:Int)<=8/\True/\True/\True)\/(1<=(x.name.size:Int)/\(x.name.size:Int)<=8/\¬0<=x.at_/\True/\True)\/(1<=(x.name.size:Int)/\(x.name.size:Int)<=8/\0<=x.at_/\¬x.at_<=200/\True)\/(1<=(x.name.size:Int)/\(x.name.size:Int)<=8/\0<=x.at_/\x.at_<=200/\x.v.ty=4)\/(1<=(x.name.size:Int)/\(x.name.size:Int)<=8/\0<=x.at_/\x.at_<=200/\¬x.v.ty=4):=by
  by_cases c1:1<=(x.name.size:Int)
  rotate_left
  ·exact .inl ⟨c1,trivial,trivial,trivial,trivial⟩
  by_cases c2:(x.name.size:Int)<=8
  rotate_left
  ·exact .inr (.inl ⟨c1,c2,trivial,trivial,trivial⟩)
  by_cases c3:0<=x.at_
  rotate_left
  ·exact .inr (.inr (.inl ⟨c1,c2,c3,trivial,trivial⟩))
  by_cases c4:x.at_<=200
  rotate_left
  ·exact .inr (.inr (.inr (.inl ⟨c1,c2,c3,c4,trivial⟩)))
  by_cases c5:x.v.ty=4
  ·exact .inr (.inr (.inr (.inr (.inl ⟨c1,c2,c3,c4,c5⟩))))
  ·exact .inr (.inr (.inr (.inr (.inr ⟨c1,c2,c3,c4,c5⟩))))
 have n1:(1<=x.name.size)<->1<=(x.name.size:Int):=jB;have n2:(x.name.size<=8)<->(x.name.size:Int)<=8:=jB;rcases hq with⟨c1,c2,c3,c4,c5⟩|⟨c1,c2,c3,c4,c5⟩|⟨c1,c2,c3,c4,c5⟩|⟨c1,c2,c3,c4,c5⟩|⟨c1,c2,c3,c4,c5⟩|⟨c1,c2,c3,c4,c5⟩
 all_goals
  refine cB func68 ntmps68 ?_
  (have W:=jA c1 (jA c2 (jA c3 (jA c4 (c5))));repeat' (first|refine ar fun K hK=>?_|refine av ?_|(refine hK _ _ ?_;clear hK K)|(refine au ?_ ?_<;>intro hc<;>try exact jz)|refine bx 3 ?_|(first|refine cg (h) ?_|refine oH (h) ?_)|refine cq (h) ?_|refine⟨rB true,?_⟩|refine aq ?_|exact jI|(clear hK K)))
  (refine bq [.tmp 2] ?_;try simp only[go_sem])
  refine HH ?_;rw[<-hb];simp[n1,n2,c1,c2,c3,c4,c5]
def BZ:aw:=⟨0,⟨#[]⟩,⟨0,0,⟨#[]⟩⟩⟩
def HD(y:aw)(t:Int):af prog 126 [.agg (bj y),.pt 6 0 0 0] [(6,.var 3 [rI t])] (fun r l=>r=rB (decide (t<y.at_))/\l=[(6,.var 3 [rI t])]):=by
 refine aQ func126 ntmps126 ?_;refine S ?_
 (repeat' (first|refine ar fun K hK=>?_|refine av ?_|(refine hK _ _ ?_;clear hK K)|(refine au ?_ ?_<;>intro hc<;>try exact jz)|refine bx 9 ?_|refine aq ?_|exact jI|(clear hK K)))
 (refine bq [.tmp 3] ?_;try simp only[go_sem])
def RN(t:Int)(L:List aw)(hL:L.length<=1000)(n:Nat)(hn:n=L.length):af prog 129 [.rs 1 n 5 n,.eW 126 [.pt 6 0 0 0]] [(1,.aJ 56 5 (L.map bj)),(6,.var 3 [rI t])] (fun r l=>r=rI (tu t L)/\l=[(1,.aJ 56 5 (L.map bj)),(6,.var 3 [rI t])]):=by
 suffices key:∀z,tu t L=z->af prog 129 [.rs 1 n 5 n,.eW 126 [.pt 6 0 0 0]] [(1,.aJ 56 5 (L.map bj)),(6,.var 3 [rI t])] (fun r l=>r=rI z/\l=[(1,.aJ 56 5 (L.map bj)),(6,.var 3 [rI t])]) from key _ rfl
 intro z hz;have Xe:(L.map bj).length=n:=by rw[List.length_map,hn]
 refine aQ func129 ntmps129 ?_;refine S ?_
 (repeat' (first|refine ar fun K hK=>?_|refine av ?_|(refine hK _ _ ?_;clear hK K)|(refine au ?_ ?_<;>intro hc<;>try exact jz)|refine aq ?_|exact jI|(clear hK K)))
 have Vc:=hK;clear hK;refine dJ (S:=Nat) [(4,2),(8,11)] (fun k=>k<=n/\∀j,j<k->¬t<(nth L j).at_) (fun k=>[(8,rI k)]) (fun _=>⟨[1,6],[(1,.aJ 56 5 (L.map bj)),(6,.var 3 [rI t])]⟩) (fun k=>n-k) 0 ⟨Nat.zero_le _,fun j h=>jB⟩ (dK rfl bU) ?_;rintro k ⟨hk,Vj⟩ Kr Vb;by_cases D':k<n
 ·have Vy:=HD (nth L k) t;have We:k<L.length:=jB;by_cases c:t<(nth L k).at_
  ·rw[decide_eq_true c]at Vy;have hp:=HJ Vj We c;have:z=(k:Int):=by rw[<-hz];unfold tu;rw[hp,if_pos We]
   subst this;refine S ?_
   (have W:=jA D' (jA Xe (We));repeat' (first|refine ar fun K hK=>?_|refine av ?_|(refine hK _ _ ?_;clear hK K)|(refine au ?_ ?_<;>intro hc<;>try exact jz)|(refine cl Vy ?_)|refine aq ?_|exact jI|(clear hK K)))
   (refine bq [.tmp 4] ?_;try simp only[go_sem])
  ·rw[decide_eq_false c]at Vy;refine S ?_
   (have W:=jA D' (jA Xe (We));repeat' (first|refine ar fun K hK=>?_|refine av ?_|(refine hK _ _ ?_;clear hK K)|(refine au ?_ ?_<;>intro hc<;>try exact jz)|(refine cl Vy ?_)|refine aq ?_|exact jI|(clear hK K)))
   exact Vb _ _ (dT (k+1) ⟨jB,fun j hj=>by
    by_cases e:j<k
    ·exact Vj j e
    ·rw[show j=k from jB];exact c⟩ (by show n-(k+1)<n-k;omega) rfl bU)
 ·have hp:=El (t:=t) (L:=L) fun j hj=>Vj j jB
  have:z=-1:=by rw[<-hz];unfold tu;rw[hp,if_neg (Nat.lt_irrefl _)]
  subst this;refine S ?_
  (have W:=jA D' Xe;repeat' (first|refine ar fun K hK=>?_|refine av ?_|(refine hK _ _ ?_;clear hK K)|(refine au ?_ ?_<;>intro hc<;>try exact jz)|refine Vc _ _ ?_|refine aq ?_|exact jI|(clear hK K)))
  (refine bq [.tmp 4] ?_;try simp only[go_sem])
def O6(t:Int)(L:List aw)(hL:L.length<=1000)(n:Nat)(hn:n=L.length):af prog 125 [.rs 1 n 5 n,.eW 126 [.pt 6 0 0 0]] [(1,.aJ 56 5 (L.map bj)),(6,.var 3 [rI t])] (fun r l=>r=.rs 1 n 5 (dh L t).length/\l=[(1,.aJ 56 5 ((dh L t++List.replicate (n-(dh L t).length) BZ).map bj)),(6,.var 3 [rI t])]):=by
 have XC:=RN t L hL n hn;have hll:=Eh t L;have Xe:(L.map bj).length=n:=by rw[List.length_map,hn]
 by_cases hq:jt t L<L.length
 rotate_left
 ·have hi:tu t L=-1:=by unfold tu;rw[if_neg hq]
  have he:dh L t=L:=by have:=BB t L;rwa [show jt t L=L.length from jB,List.take_length]at this
  rw[hi]at XC;rw[he,<-hn,Nat.sub_self];simp only[List.replicate_zero,List.append_nil];refine aQ func125 ntmps125 ?_;refine S ?_
  (repeat' (first|refine ar fun K hK=>?_|refine av ?_|(refine hK _ _ ?_;clear hK K)|(refine au ?_ ?_<;>intro hc<;>try exact jz)|refine cm (XC) ?_|refine aq ?_|exact jI|(clear hK K)))
  (refine bq [.tmp 4] ?_;try simp only[go_sem])
 ·have hi:tu t L=(jt t L:Int):=by unfold tu;rw[if_pos hq]
  have hE0:=BB t L;have VL:=GB hq;rw[hi]at XC;have XB:¬(jt t L:Int)=-1:=jB;have hE1:dh (L.take (jt t L+1)) t=L.take (jt t L):=by rw[pj hq,I2,jN,hE0]
  have hr0:L.take (jt t L)++[nth L (jt t L)]++L.drop (jt t L+1)=L:=by rw[<-pj hq,List.take_append_drop]
  generalize jt t L=q at*;have X6:(L.take q).length=q:=by rw[List.length_take];omega
  refine aQ func125 ntmps125 ?_;refine S ?_
  (have W:=XB;repeat' (first|refine ar fun K hK=>?_|refine av ?_|(refine hK _ _ ?_;clear hK K)|(refine au ?_ ?_<;>intro hc<;>try exact jz)|refine cm (XC) ?_|refine aq ?_|exact jI|(clear hK K)))
  have Vc:=hK;clear hK;refine dJ (S:=Nat×List aw) [(5,3),(16,20)] (fun s=>s.1<=n/\(dh (L.take s.1) t).length+s.2.length=s.1/\0<s.2.length) (fun s=>[(5,rI (dh (L.take s.1) t).length),(6,rI s.1)]) (fun s=>⟨[1,6],[(1,.aJ 56 5 ((dh (L.take s.1) t++s.2++L.drop s.1).map bj)),(6,.var 3 [rI t])]⟩) (fun s=>n-s.1) (q+1,[nth L q]) ⟨by show q+1<=n;omega,by show(dh (L.take (q+1)) t).length+1=q+1;rw[hE1,X6],Nat.zero_lt_succ 0⟩ ?_ ?_
  ·show dI _ _ (ni [(5,rI (dh (L.take (q+1)) t).length),(6,rI (q+1:Nat))] _) ⟨[1,6],[(1,.aJ 56 5 ((dh (L.take (q+1)) t++[nth L q]++L.drop (q+1)).map bj)),(6,.var 3 [rI t])]⟩;rw[hE1,hr0,X6];exact dK rfl bU
  rintro⟨j,J⟩ ⟨hj,O',hJ⟩ Kr Vb;have hj:j<=n:=hj;have O':(dh (L.take j) t).length+J.length=j:=O';have hJ:0<J.length:=hJ;by_cases D':j<n
  ·have X0:j<L.length:=jB;have WS:=pj X0;have Zy:dh (L.take (j+1)) t=if(nth L j).at_<=t then dh (L.take j) t++[nth L j]else dh (L.take j) t:=by rw[WS,I2]
   have Y8:L.drop j=nth L j::L.drop (j+1):=by rw[fA X0];exact List.drop_eq_getElem_cons X0
   have Vy:=HD (nth L j) t;generalize hx:nth L j=x at*;generalize hE:dh (L.take j) t=E at*;have Z5:nth (E++J++L.drop j) j=x:=by rw[Y8];unfold nth;rw[List.getD_eq_getElem?_getD,List.getElem?_append_right (by rw[List.length_append];omega),List.length_append,O',Nat.sub_self];rfl
   have WV:(E++J++L.drop j).length=n:=by rw[List.length_append,List.length_append,List.length_drop];omega
   generalize hR:E++J++L.drop j=R at*;by_cases c:t<x.at_
   ·rw[decide_eq_true c]at Vy;rw[jN]at Zy;refine S ?_
    (have W:=jA D' (jA Z5 (WV));repeat' (first|refine ar fun K hK=>?_|refine av ?_|(refine hK _ _ ?_;clear hK K)|(refine au ?_ ?_<;>intro hc<;>try exact jz)|refine al 7 ?_|(refine cl Vy ?_)|refine aq ?_|exact jI|(clear hK K)))
    have VZ:dh (L.take (j+1)) t++(J++[x])++L.drop (j+1)=R:=by rw[Zy,<-hR,Y8];simp
    refine Vb _ _ (nz [7] (j+1,J++[x]) ⟨by show j+1<=n;omega,by show(dh (L.take (j+1)) t).length+(J++[x]).length=j+1;rw[Zy,List.length_append];simp only[List.length_cons,List.length_nil];omega,by show 0<(J++[x]).length;rw[List.length_append];omega⟩ (by show n-(j+1)<n-j;omega) rfl Sd ?_ ?_)
    ·simp only[VZ];rfl
    ·simp only[Zy];exact iQ
   ·rw[decide_eq_false c]at Vy;rw[jP]at Zy;refine S ?_
    (have W:=jA D' (jA Z5 (WV));repeat' (first|refine ar fun K hK=>?_|refine av ?_|(refine hK _ _ ?_;clear hK K)|(refine au ?_ ?_<;>intro hc<;>try exact jz)|refine al 7 ?_|(refine cl Vy ?_)|refine aq ?_|exact jI|(clear hK K)))
    have Va:(R.map bj).set E.length (bj x++List.drop 5 (bj (nth R E.length)))=(R.set E.length x).map bj:=(List.map_set (f:=bj)).symm;have VZ:dh (L.take (j+1)) t++(J.drop 1++[x])++L.drop (j+1)=R.set E.length x:=by
     rw[Zy,<-hR,Y8];obtain⟨y,J',rfl⟩:∃y J',J=y::J':=by
      cases J with
      |nil=>simp at hJ
      |cons y J'=>exact⟨y,J',rfl⟩
     simp
    rw[Va];refine Vb _ _ (nz [7] (j+1,J.drop 1++[x]) ⟨by show j+1<=n;omega,by show(dh (L.take (j+1)) t).length+(J.drop 1++[x]).length=j+1;rw[Zy,List.length_append,List.length_append,List.length_drop];simp only[List.length_cons,List.length_nil];omega,by show 0<(J.drop 1++[x]).length;rw[List.length_append];simp only[List.length_cons];omega⟩ (by show n-(j+1)<n-j;omega) rfl Sd ?_ ?_)
    ·simp only[VZ];rfl
    ·simp only[Zy,List.length_append,List.length_cons,List.length_nil];exact iQ
  ·have hje:j=n:=jB;subst hje;have hz:((dh (L.take j) t++J++L.drop j).map bj).length=j:=by rw[List.length_map,List.length_append,List.length_append,List.length_drop];omega
   rw[hn,List.take_length,<-hn]at O';rw[hn,List.take_length,List.drop_length,List.append_nil,<-hn]at hz ⊢;have Yf:eH ((dh L t++J).map bj) (dh L t).length (List.replicate (j-(dh L t).length) (ta.map AV.raw))=(dh L t++List.replicate (j-(dh L t).length) BZ).map bj:=by unfold eH;rw[List.map_append,List.map_append,List.map_replicate];have h1:=List.take_left (l₁:=(dh L t).map bj) (l₂:=J.map bj);rw[List.length_map]at h1;rw[h1,List.length_replicate,List.drop_of_length_le (by rw[List.length_append,List.length_map,List.length_map];omega),List.append_nil];rfl
   generalize dh L t=E at*;simp only[List.map_append]at hz Yf;refine S ?_
   (have W:=jA D' hz;repeat' (first|refine ar fun K hK=>?_|refine av ?_|(refine hK _ _ ?_;clear hK K)|(refine au ?_ ?_<;>intro hc<;>try exact jz)|(refine Pf (zs:=ta) rfl hz.symm jG jG jG rfl jC rfl jB ?_;refine S ?_)|refine Vc _ _ ?_|refine aq ?_|exact jI|(clear hK K)))
   rw[Yf]
   (refine bq [.tmp 4] ?_;try simp only[go_sem])
def KO(l:List aw)(t:Int)(hl:l.length<=1000):aD prog 69 [aM bj 5 l,rI t] (aM bj 5 (dh l t)):=by
 have Vf:=Dj l hl 1;have hd:=O6 t l hl _ rfl;have Xt:=yv l t;refine cB func69 ntmps69 ?_
 (repeat' (first|refine ar fun K hK=>?_|refine av ?_|(refine hK _ _ ?_;clear hK K)|(refine au ?_ ?_<;>intro hc<;>try exact jz)|refine bx 6 ?_|refine cm (Vf) ?_|refine cm (hd) ?_|refine aq ?_|exact jI|(clear hK K)))
 refine fy [.tmp 4] ?_;exact db.qe (dh l t) (List.replicate (l.length-(dh l t).length) BZ) rfl (by rw[List.map_append];rfl) (by rw[List.length_replicate];omega) rfl
end Go.Proofs.YtjpcgmjaipfgdaaGreatDoor
/- Lemmas. No conditions. -/
import Derived.Test.YtijdhbokcdpklaaGreatDoorRpQ
set_option linter.all false
set_option maxHeartbeats 4000000
set_option maxRecDepth 10000
namespace Go.Gd
open Go
def km:List aB->Prop
 |[]=>True
 |x::l=>(∀y,l.head?=some y->x.at_<=y.at_)/\km l
def ci(E:List aB)(t:Int):List aB:=E.filter fun x=>decide (x.at_<=t)
theorem Cn{t:Int}:∀(l:List aB) (x:aB),km (x::l)->t<x.at_->ci l t=[]/\∀k,k<l.length->t<(nth l k).at_
 |[],x,_,_=>⟨rfl,fun k hk=>by simp at hk⟩
 |y::l,x,h,hx=>by
  have hy:t<y.at_:=by have:=h.1 y rfl;omega
  obtain⟨a,b⟩:=Cn l y h.2 hy;refine⟨?_,fun k hk=>?_⟩
  ·unfold ci at a ⊢;rw[List.filter_cons_of_neg jF,a]
  ·cases k with
   |zero=>exact hy
   |succ k=>exact b k (by simpa using hk)
theorem B5{t:Int}:∀(E:List aB),km E->∃K,K<=E.length/\ci E t=E.take K/\∀k,K<=k->k<E.length->t<(nth E k).at_
 |[],_=>⟨0,Nat.le_refl _,rfl,fun k _ hk=>by simp at hk⟩
 |x::l,h=>by
  by_cases c:x.at_<=t
  ·obtain⟨K,h1,h2,h3⟩:=B5 l h.2;refine⟨K+1,by simp;omega,?_,fun k hk hl=>?_⟩
   ·unfold ci at h2 ⊢;rw[List.filter_cons_of_pos (by simpa using c),h2];rfl
   ·cases k with
    |zero=>omega
    |succ k=>exact h3 k jB (by simpa using hl)
  ·obtain⟨a,b⟩:=Cn (t:=t) l x h jB;refine⟨0,Nat.zero_le _,?_,fun k _ hk=>?_⟩
   ·unfold ci at a ⊢;rw[List.filter_cons_of_neg (by simpa using c),a];rfl
   ·cases k with
    |zero=>show t<x.at_;omega
    |succ k=>exact b k (by simpa using hk)
def gJ(x:aB):List aB->List aB
 |[]=>[x]
 |y::l=>if x.at_<y.at_ then x::y::l else y::gJ x l
def gY:List aB->List aB->List aB
 |a,[]=>a
 |a,x::b=>gY (gJ x a) b
def lS(x:aB):List aB->Nat
 |[]=>0
 |y::l=>if x.at_<y.at_ then 0 else lS x l+1
def lN(x:aB):Bool:=decide (1<=x.name.size) && decide (x.name.size<=8) && decide (0<=x.at_) && decide (x.at_<=200) && decide (x.v.ty≠4) && lW x.v
theorem BN(x:aB):∀l,lS x l<=l.length
 |[]=>Nat.le_refl _
 |y::l=>by
  unfold lS;split
  ·exact Nat.zero_le _
  ·have:=BN x l;simp only[List.length_cons];omega
theorem Ch(x:aB):∀l,gJ x l=l.take (lS x l)++x::l.drop (lS x l)
 |[]=>rfl
 |y::l=>by
  unfold gJ lS;split
  ·rfl
  ·rw[Ch x l];rfl
def iE(x:aB)(l:List aB):(gJ x l).length=l.length+1:=by have:=BN x l;rw[Ch,List.length_append,List.length_cons,List.length_take,List.length_drop];omega
theorem zA:∀(b a:List aB),(gY a b).length=a.length+b.length
 |[],a=>rfl
 |x::b,a=>by show(gY (gJ x a) b).length=_;rw[zA b,iE];simp only[List.length_cons];omega
theorem u7{x y:aB}:∀{l:List aB},y∈gJ x l<->y=x\/y∈l
 |[]=>by simp[gJ]
 |z::l=>by
  unfold gJ;split
  ·simp
  ·rw[List.mem_cons,u7,List.mem_cons];constructor
   ·rintro(h|h|h)
    ·exact .inr (.inl h)
    ·exact .inl h
    ·exact .inr (.inr h)
   ·rintro(h|h|h)
    ·exact .inr (.inl h)
    ·exact .inl h
    ·exact .inr (.inr h)
theorem zL{y:aB}:∀{b a:List aB},y∈gY a b<->y∈a\/y∈b
 |[],a=>by simp[gY]
 |x::b,a=>by
  show y∈gY (gJ x a) b<->_;rw[zL,u7,List.mem_cons];constructor
  ·rintro((h|h)|h)
   ·exact .inr (.inl h)
   ·exact .inl h
   ·exact .inr (.inr h)
  ·rintro(h|h|h)
   ·exact .inl (.inr h)
   ·exact .inl (.inl h)
   ·exact .inr h
theorem xO(x:aB):∀{l:List aB},km l->km (gJ x l)
 |[],_=>⟨fun y h=>(by cases h),trivial⟩
 |z::l,h=>by
  unfold gJ;split
  ·rename_i c;refine⟨fun y hy=>?_,h⟩;cases hy;omega
  ·rename_i c;refine⟨fun y hy=>?_,xO x h.2⟩;cases l with
   |nil=>cases hy;omega
   |cons w l=>
    unfold gJ at hy;split at hy
    ·cases hy;omega
    ·have h3:=h.1 w rfl;cases hy;exact h3
theorem Cy:∀{b a:List aB},km a->km (gY a b)
 |[],_,h=>h
 |x::b,a,h=>Cy (b:=b) (xO x h)
theorem zI{x:aB}{t:Int}(h:t<x.at_):∀l,ci (gJ x l) t=ci l t
 |[]=>by unfold ci gJ;rw[List.filter_cons_of_neg jF]
 |z::l=>by
  have ih:=zI h l;unfold gJ;split
  ·unfold ci;rw[List.filter_cons_of_neg jF]
  ·unfold ci at ih ⊢;rw[List.filter_cons,List.filter_cons,ih]
def GC{a t:Int}(h:t<=a)(l:List aB):ci (ci l a) t=ci l t:=by
 unfold ci;rw[List.filter_filter];congr 1
 funext x
 by_cases c:x.at_<=t
 ·simp[c];omega
 ·simp[c]
def rW{l:List aB}{t:Int}{x:aB}(h:x∈ci l t):x∈l/\x.at_<=t:=by unfold ci at h;rw[List.mem_filter]at h;exact⟨h.1,by simpa using h.2⟩
theorem Gu{x:aB}:∀{l:List aB},km (x::l)->∀y∈l,x.at_<=y.at_
 |[],_,y,h=>by cases h
 |z::l,h,y,hy=>by
  have h1:=h.1 z rfl;rcases List.mem_cons.1 hy with rfl|hy
  ·exact h1
  ·have:=Gu h.2 y hy;omega
def Pd{x:aB}{l:List aB}(h:km l)(h2:∀y∈l,x.at_<=y.at_):km (x::l):=
 ⟨fun y hy=>h2 y (by cases l with|nil=>cases hy|cons z l=>cases hy;simp),h⟩
theorem wT{t:Int}:∀{l:List aB},km l->km (ci l t)
 |[],_=>trivial
 |x::l,h=>by
  have ih:=wT (t:=t) h.2;unfold ci at ih ⊢;rw[List.filter_cons];split
  ·exact Pd ih fun y hy=>Gu h y ((List.mem_filter.1 hy).1)
  ·exact ih
variable{A:UC}{k:Nat}
def Sz{S:UC}{y:UE}(hk:k<A.length)(hS:0<S.length):dx (dx (A++S) (k+1) (A.drop k)) k [y]=A.take k++y::A.drop k++S.drop 1:=by
 unfold dx;simp only[List.length_drop,List.length_cons,List.length_nil];have h1:(A++S).take (k+1)=A.take (k+1):=by rw[List.take_append_of_le_length jB]
 have h2:(A++S).drop (k+1+(A.length-k))=S.drop 1:=by rw[show k+1+(A.length-k)=A.length+1 from jB,<-List.drop_drop,List.drop_left]
 have h3:(A.take (k+1)).length=k+1:=by rw[List.length_take];omega
 rw[h1,h2,List.append_assoc (A.take (k+1)),List.take_append_of_le_length (l₁:=A.take (k+1)) jB,List.take_take,Nat.min_eq_left jB];rw[show k+(0+1)=k+1 from jB];have h4:(A.take (k+1)++(A.drop k++S.drop 1)).drop (k+1)=A.drop k++S.drop 1:=by have:=List.drop_left (l₁:=A.take (k+1)) (l₂:=A.drop k++S.drop 1);rwa [h3]at this
 rw[h4];simp
def Ra{R:UC}{y:UE}(hk:k<A.length)(hR:R.length=A.length+1-k):dx (dx (A.take k++R) k [y]) (k+1) (A.drop k)=A.take k++y::A.drop k:=by
 have h3:(A.take k).length=k:=by rw[List.length_take];omega
 unfold dx;simp only[List.length_drop,List.length_cons,List.length_nil];have h4:(A.take k++R).take k=A.take k:=by have:=List.take_left (l₁:=A.take k) (l₂:=R);rwa [h3]at this
 have h5:(A.take k++R).drop (k+(0+1))=R.drop 1:=by rw[show k+(0+1)=k+1 from jB,<-List.drop_drop];have:=List.drop_left (l₁:=A.take k) (l₂:=R);rw[h3]at this;rw[this]
 rw[h4,h5];have h6:(A.take k++[y]++R.drop 1).take (k+1)=A.take k++[y]:=by have:=List.take_left (l₁:=A.take k++[y]) (l₂:=R.drop 1);rwa [List.length_append,h3,List.length_cons,List.length_nil]at this
 have h7:(A.take k++[y]++R.drop 1).drop (k+1+(A.length-k))=[]:=by apply List.drop_of_length_le;rw[List.length_append,List.length_append,h3,List.length_drop];simp only[List.length_cons,List.length_nil];omega
 rw[h6,h7];simp
def sy:UM:=[.int .i64 0,.string ⟨#[]⟩,.int .i64 0,.int .i64 0,.string ⟨#[]⟩]
abbrev AI:UE:=List.map AV.raw sy
theorem HX(q:UO):∀l:List aB,aY q (l.map bA).flatten=true
 |[]=>rfl
 |x::l=>by rw[List.map_cons,List.flatten_cons,vQ,HX q l,E4];rfl
theorem EX{x:aB}:∀{L:List aB} {k:Nat},(∀j,j<k->¬x.at_<(nth L j).at_)->k<L.length->x.at_<(nth L k).at_->lS x L=k
 |[],k,_,h,_=>by simp at h
 |y::L,0,_,_,h=>by exact if_pos h
 |y::L,k+1,h1,h2,h3=>by show(if x.at_<y.at_ then 0 else lS x L+1)=_;rw[if_neg (show¬x.at_<y.at_ from h1 0 jB),EX (L:=L) (k:=k) (fun j hj=>h1 (j+1) jB) (by simpa using h2) h3]
theorem D9{x:aB}:∀{L:List aB},(∀j,j<L.length->¬x.at_<(nth L j).at_)->lS x L=L.length
 |[],_=>rfl
 |y::L,h=>by show(if x.at_<y.at_ then 0 else lS x L+1)=_;rw[if_neg (show¬x.at_<y.at_ from h 0 jE),D9 (L:=L) (fun j hj=>h (j+1) jF)];rfl
def sk(x:aB)(L:List aB):Int:=if lS x L<L.length then(lS x L:Int)else -1
def Na(l:List aB):∀(a:List aB) (x:aB),gY l (a++[x])=gJ x (gY l a):=fun a=>by
 induction a generalizing l with
 |nil=>intro x;rfl
 |cons y a ih=>intro x;exact ih (gJ y l) x
def jb(t:Int):List aB->Nat
 |[]=>0
 |y::l=>if t<y.at_ then 0 else jb t l+1
theorem Iw{t:Int}:∀{L:List aB} {k:Nat},(∀j,j<k->¬t<(nth L j).at_)->k<L.length->t<(nth L k).at_->jb t L=k
 |[],k,_,h,_=>by simp at h
 |y::L,0,_,_,h=>if_pos h
 |y::L,k+1,h1,h2,h3=>by show(if t<y.at_ then 0 else jb t L+1)=_;rw[if_neg (show¬t<y.at_ from h1 0 jB),Iw (L:=L) (k:=k) (fun j hj=>h1 (j+1) jB) (by simpa using h2) h3]
theorem JU{t:Int}:∀{L:List aB},(∀j,j<L.length->¬t<(nth L j).at_)->jb t L=L.length
 |[],_=>rfl
 |y::L,h=>by show(if t<y.at_ then 0 else jb t L+1)=_;rw[if_neg (show¬t<y.at_ from h 0 jE),JU (L:=L) (fun j hj=>h (j+1) jF)];rfl
def tF(t:Int)(L:List aB):Int:=if jb t L<L.length then(jb t L:Int)else -1
theorem El(t:Int):∀L,jb t L<=L.length
 |[]=>Nat.le_refl _
 |y::l=>by
  unfold jb;split
  ·exact Nat.zero_le _
  ·have:=El t l;simp only[List.length_cons];omega
theorem Ay(t:Int):∀L:List aB,ci (L.take (jb t L)) t=L.take (jb t L)
 |[]=>rfl
 |y::l=>by
  unfold jb;split
  ·rfl
  ·rename_i c;have ih:=Ay t l;unfold ci at ih ⊢;rw[List.take_succ_cons,List.filter_cons_of_pos (by simpa using Int.not_lt.1 c),ih]
theorem Ei{t:Int}:∀{L:List aB},jb t L<L.length->t<(nth L (jb t L)).at_
 |[],h=>by simp[jb]at h
 |y::l,h=>by
  unfold jb at h ⊢;split
  ·rename_i c;exact c
  ·rename_i c;rw[if_neg c]at h;simp only[List.length_cons]at h;exact Ei (L:=l) jB
def Jp(L:List aB)(x:aB)(t:Int):ci (L++[x]) t=if x.at_<=t then ci L t++[x]else ci L t:=by
 unfold ci;rw[List.filter_append];split
 ·rename_i h;rw[List.filter_cons_of_pos (by simpa using h)];rfl
 ·rename_i h;rw[List.filter_cons_of_neg (by simpa using h)];simp
def A4(L:List aB)(t:Int):(ci L t).length<=L.length:=List.length_filter_le _ _
def zK{α:Type}[Inhabited α]{l:List α}{n:Nat}(h:k<n):nth (l.take n) k=nth l k:=by unfold nth;rw[List.getD_eq_getElem?_getD,List.getElem?_take,if_pos h,List.getD_eq_getElem?_getD]
def iz(name:UI)(ty:Int):List bE->Int->Int
 |[],_=>-1
 |v::l,i=>if v.name=name/\v.ty=ty then i else iz name ty l (i+1)
theorem Is(name:UI)(ty:Int):∀(l:List bE) (i:Int),0<=i->(iz name ty l i=-1\/(i<=iz name ty l i/\iz name ty l i<i+l.length))
 |[],i,_=>.inl rfl
 |v::l,i,h=>by
  unfold iz;split
  ·right;simp only[List.length_cons];omega
  ·rcases Is name ty l (i+1) jB with e|e
   ·exact .inl e
   ·right;simp only[List.length_cons];omega
theorem yW(name:UI)(ty:Int):∀(l:List bE) (i:Nat),0<=iz name ty l (i:Int)->∃k:Nat,iz name ty l (i:Int)=(i:Int)+k/\k<l.length/\((nth l k).name=name/\(nth l k).ty=ty)/\∀j,j<k->¬((nth l j).name=name/\(nth l j).ty=ty)
 |[],i,h=>by unfold iz at h;omega
 |v::l,i,h=>by
  unfold iz at h ⊢;by_cases c:v.name=name/\v.ty=ty
  ·rw[if_pos c];exact⟨0,jB,jE,c,fun j hj=>jB⟩
  ·rw[if_neg c]at h ⊢;obtain⟨k,e,hk,g,f⟩:=yW name ty l (i+1) (by push_cast;exact h);refine⟨k+1,by push_cast at e ⊢;omega,by simp;omega,g,fun j hj=>?_⟩;cases j with
   |zero=>exact c
   |succ j=>exact f j jB
theorem ET(name:UI)(ty:Int):∀(l:List bE) (i:Nat),iz name ty l (i:Int)<0->∀j,j<l.length->¬((nth l j).name=name/\(nth l j).ty=ty)
 |[],i,h,j,hj=>by simp at hj
 |v::l,i,h,j,hj=>by
  unfold iz at h;by_cases c:v.name=name/\v.ty=ty
  ·rw[if_pos c]at h;omega
  ·rw[if_neg c]at h;cases j with
   |zero=>exact c
   |succ j=>exact ET name ty l (i+1) (by push_cast;exact h) j (by simpa using hj)
section
variable {σ:Type}(tm:σ->Int)(st:σ->σ)(se:σ->UI->aj->Option σ)(E:List aB)
def cv:Nat->σ->Nat->Bool->σ×Nat×Bool
 |0,s,k,b=>(s,k,b)
 |n+1,s,k,b=>
  if b=false/\k<E.length/\(nth E k).at_=tm s then
   match se s (nth E k).name (nth E k).v with
   |some s'=>cv n s' (k+1) false
   |none=>(s,k,true)
  else(s,k,b)
def cZ(t:Int):Nat->σ->Nat->Bool->σ×Nat×Bool
 |0,s,k,b=>(s,k,b)
 |n+1,s,k,b=>
  if tm (cv tm se E (E.length+1) s k b).1=t then cv tm se E (E.length+1) s k b
  else if tm (st (cv tm se E (E.length+1) s k b).1)=tm (cv tm se E (E.length+1) s k b).1 then(st (cv tm se E (E.length+1) s k b).1,(cv tm se E (E.length+1) s k b).2)
  else cZ t n (st (cv tm se E (E.length+1) s k b).1) (cv tm se E (E.length+1) s k b).2.1 (cv tm se E (E.length+1) s k b).2.2
def l5(t:Int)(r:σ×Nat×Bool):Int:=if r.2.1<E.length/\(nth E r.2.1).at_<=t then r.2.1+1 else 0
end
def dL(t:Int):Int:=min (max t 0) 200
section
variable {σ:Type}{tm:σ->Int}{st:σ->σ}{se:σ->UI->aj->Option σ}{E:List aB}
structure lF(tm:σ->Int)(st:σ->σ)(se:σ->ByteArray->aj->Option σ)(E:List aB)(I:σ->Prop):Prop where
 se:∀s k s',I s->k<E.length->se s (nth E k).name (nth E k).v=some s'->I s'/\tm s'=tm s
 st:∀s,I s->tm s<200->I (st s)/\(tm (st s)=tm s\/tm (st s)=tm s+1)
 tm:∀s,I s->0<=tm s
variable {I:σ->Prop}
theorem na(h:lF tm st se E I):∀(n:Nat) (s:σ) (k:Nat) (b:Bool),I s->I (cv tm se E n s k b).1/\tm (cv tm se E n s k b).1=tm s/\k<=(cv tm se E n s k b).2.1/\(k<=E.length->(cv tm se E n s k b).2.1<=E.length)
 |0,s,k,b,hs=>⟨hs,rfl,Nat.le_refl _,fun h=>h⟩
 |n+1,s,k,b,hs=>by
  unfold cv;split
  ·rename_i hc;split
   ·rename_i s' XZ;obtain⟨a1,a2⟩:=h.se s k s' hs hc.2.1 XZ;obtain⟨b1,b2,b3,b4⟩:=na h n s' (k+1) false a1;exact⟨b1,b2.trans a2,jB,fun _=>b4 jB⟩
   ·exact⟨hs,rfl,Nat.le_refl _,fun h=>h⟩
  ·exact⟨hs,rfl,Nat.le_refl _,fun h=>h⟩
theorem sF(h:lF tm st se E I){t:Int}(ht:t<=200):∀(n:Nat) (s:σ) (k:Nat) (b:Bool),I s->tm s<=t->k<=E.length->I (cZ tm st se E t n s k b).1/\(cZ tm st se E t n s k b).2.1<=E.length/\tm (cZ tm st se E t n s k b).1<=t/\k<=(cZ tm st se E t n s k b).2.1
 |0,s,k,b,hs,h1,hk=>⟨hs,hk,h1,Nat.le_refl _⟩
 |n+1,s,k,b,hs,h1,hk=>by
  obtain⟨a1,a2,a3,a4⟩:=na h (E.length+1) s k b hs;unfold cZ;split
  ·exact⟨a1,a4 hk,jB,a3⟩
  rename_i Vu;have O':tm (cv tm se E (E.length+1) s k b).1<200:=jB;obtain⟨c1,c2⟩:=h.st _ a1 O';split
  ·exact⟨c1,a4 hk,by show tm (st (cv tm se E (E.length+1) s k b).1)<=t;omega,a3⟩
  ·rename_i haI;obtain⟨d1,d2,d3,d4⟩:=sF h ht n _ (cv tm se E (E.length+1) s k b).2.1 (cv tm se E (E.length+1) s k b).2.2 c1 jB (a4 hk);exact⟨d1,d2,d3,jB⟩
theorem I0{K:Nat}(hK:K<=E.length):∀(n m:Nat) (s:σ) (k:Nat) (b:Bool),k<=K->K-k<n->K-k<m->(cv tm se E n s k b).2.1<=K->(cv tm se (E.take K) m s k b).1=(cv tm se E n s k b).1/\(cv tm se (E.take K) m s k b).2.1=(cv tm se E n s k b).2.1/\((cv tm se E n s k b).2.1<K->(cv tm se (E.take K) m s k b).2.2=(cv tm se E n s k b).2.2)
 |0,_,s,k,b,_,h,_,_=>by omega
 |_,0,s,k,b,_,_,h,_=>jB
 |n+1,m+1,s,k,b,hk,hn,hm,Uq=>by
  have hl:(E.take K).length=K:=by rw[List.length_take];omega
  unfold cv at Uq ⊢;rw[hl];by_cases hc:b=false/\k<E.length/\(nth E k).at_=tm s
  ·rw[if_pos hc]at Uq ⊢;by_cases Zy:k<K
   ·have e:nth (E.take K) k=nth E k:=zK Zy;rw[e,if_pos ⟨hc.1,Zy,hc.2.2⟩];cases hs:se s (nth E k).name (nth E k).v with
    |none=>exact⟨rfl,rfl,fun _=>rfl⟩
    |some s'=> rw[hs]at Uq;exact I0 hK n m s' (k+1) false jB jB jB Uq
   ·rw[if_neg (fun h=>Zy h.2.1)];cases hs:se s (nth E k).name (nth E k).v with
    |none=>exact⟨rfl,rfl,fun h=>(Zy h).elim⟩
    |some s'=>
     rw[hs]at Uq;have Uq:(cv tm se E n s' (k+1) false).2.1<=K:=Uq;have:∀(n:Nat) (s:σ) (k:Nat) (b:Bool),k<=(cv tm se E n s k b).2.1:=fun n=>by
      induction n with
      |zero=>intro s k b;exact Nat.le_refl _
      |succ n ih=>
       intro s k b;unfold cv;split
       ·split
        ·rename_i s2 _;have:=ih s2 (k+1) false;omega
        ·exact Nat.le_refl _
       ·exact Nat.le_refl _
     have:=this n s' (k+1) false;omega
  ·rw[if_neg hc];rw[if_neg hc]at Uq;rw[if_neg (fun h=>hc ⟨h.1,jB,by rw[<-h.2.2,zK h.2.1]⟩)];exact⟨rfl,rfl,fun _=>rfl⟩
def xd:∀(n:Nat) (s:σ) (k:Nat) (b:Bool) (t:Int),k<=(cZ tm st se E t n s k b).2.1:=fun n=>by
 have hs:∀(n:Nat) (s:σ) (k:Nat) (b:Bool),k<=(cv tm se E n s k b).2.1:=fun n=>by
  induction n with
  |zero=>intro s k b;exact Nat.le_refl _
  |succ n ih=>
   intro s k b;unfold cv;split
   ·split
    ·rename_i s2 _;have:=ih s2 (k+1) false;omega
    ·exact Nat.le_refl _
   ·exact Nat.le_refl _
 induction n with
 |zero=>intro s k b t;exact Nat.le_refl _
 |succ n ih=>
  intro s k b t;unfold cZ;have:=hs (E.length+1) s k b;split
  ·exact this
  split
  ·exact this
  ·have:=ih (st (cv tm se E (E.length+1) s k b).1) (cv tm se E (E.length+1) s k b).2.1 (cv tm se E (E.length+1) s k b).2.2 t;omega
theorem AR{K:Nat}(hK:K<=E.length){t:Int}:∀(n:Nat) (s:σ) (k:Nat) (b b':Bool),k<=K->(k<K->b'=b)->(cZ tm st se E t n s k b).2.1<=K->(cZ tm st se (E.take K) t n s k b').1=(cZ tm st se E t n s k b).1/\(cZ tm st se (E.take K) t n s k b').2.1=(cZ tm st se E t n s k b).2.1
 |0,s,k,b,b',_,_,_=>⟨rfl,rfl⟩
 |n+1,s,k,b,b',hk,hb,Uq=>by
  have hl:(E.take K).length=K:=by rw[List.length_take];omega
  have hS:(cv tm se (E.take K) ((E.take K).length+1) s k b').1=(cv tm se E (E.length+1) s k b).1/\(cv tm se (E.take K) ((E.take K).length+1) s k b').2.1=(cv tm se E (E.length+1) s k b).2.1/\((cv tm se E (E.length+1) s k b).2.1<K->(cv tm se (E.take K) ((E.take K).length+1) s k b').2.2=(cv tm se E (E.length+1) s k b).2.2):=by
   have Ye:(cv tm se E (E.length+1) s k b).2.1<=K:=by
    unfold cZ at Uq;split at Uq
    ·exact Uq
    split at Uq
    ·exact Uq
    ·exact Nat.le_trans (xd _ _ _ _ _) Uq
   by_cases Zy:k<K
   ·rw[hb Zy,hl];exact I0 hK _ _ s k b hk jB jB Ye
   ·have Zy:k=K:=jB;subst Zy;have e1:cv tm se (E.take k) ((E.take k).length+1) s k b'=(s,k,b'):=by
     unfold cv;rw[if_neg (fun h=>by have:=h.2.1;omega)]
    have e2:(cv tm se E (E.length+1) s k b).1=s/\(cv tm se E (E.length+1) s k b).2.1=k:=by
     unfold cv at Ye ⊢;split
     ·rename_i hc;rw[if_pos hc]at Ye;cases hs:se s (nth E k).name (nth E k).v with
      |none=>exact⟨rfl,rfl⟩
      |some s'=>
       rw[hs]at Ye;have h3:∀(n:Nat) (s:σ) (k:Nat) (b:Bool),k<=(cv tm se E n s k b).2.1:=fun n=>by
        induction n with
        |zero=>intro s k b;exact Nat.le_refl _
        |succ n ih=>
         intro s k b;unfold cv;split
         ·split
          ·rename_i s2 _;have:=ih s2 (k+1) false;omega
          ·exact Nat.le_refl _
         ·exact Nat.le_refl _
       have:=h3 E.length s' (k+1) false;have Ye:(cv tm se E E.length s' (k+1) false).2.1<=k:=Ye;omega
     ·exact⟨rfl,rfl⟩
    rw[e1,e2.1,e2.2];exact⟨rfl,rfl,fun h=>jB⟩
  obtain⟨h1,h2,h3⟩:=hS;unfold cZ at Uq ⊢;rw[h1];split
  ·exact⟨h1,h2⟩
  ·rename_i Vu;rw[if_neg Vu]at Uq;split
   ·exact⟨rfl,h2⟩
   ·rename_i haI;rw[if_neg haI]at Uq;rw[h2];have hbg:(cv tm se E (E.length+1) s k b).2.1<=K:=Nat.le_trans (xd _ _ _ _ _) Uq;exact AR hK n _ _ _ _ hbg h3 Uq
end
end Go.Gd
namespace Go.Proofs.YtijdhbokcdpklaaGreatDoor
open Go Go.Gd Tryz
def HQ(l:List aB):Go.Gd.Good 5 (l.map bA):=fun c hc=>by obtain⟨y,_,rfl⟩:=List.mem_map.1 hc;exact⟨rfl,rfl⟩
def S9(l:List aB)(x:aB)(k:Nat)(hk:k<=l.length)(hl:l.length<=1000)(n:Nat)(hn:n=l.length):ab prog 107 [.rs 1 n 5 n,rI k,.sl true 5 [bA x] []] [(1,.aG 87 5 (l.map bA))] (fun r l'=>r=.rs 1 (n+1) 5 (n+1)/\l'=[(1,.aG 87 5 ((l.take k++x::l.drop k).map bA))]):=by
 have Wp:(l.map bA).length=n:=by rw[List.length_map,hn]
 by_cases hkn:k=n
 ·subst hkn;have e:l.take k++x::l.drop k=l++[x]:=by rw[hn,List.take_length,List.drop_length]
  rw[e,List.map_append];refine aM func107 ntmps107 ?_;refine S ?_
  (have W:=Wp;repeat' (first|refine av fun K hK=>?_|refine au ?_|(refine hK _ _ ?_;clear hK K)|(refine ar ?_ ?_<;>intro hc<;>try exact jz)|refine aq ?_|exact jI|(clear hK K)))
  (refine bW [.tmp 6] ?_ ?_<;>(try simp only[go_sem]))
 ·have Xv:(l.take k++x::l.drop k).map bA=(l.map bA).take k++bA x::(l.map bA).drop k:=by rw[List.map_append,List.map_cons,List.map_take,List.map_drop]
  have Yw:(l.drop k).map bA=(l.map bA).drop k:=List.map_drop;have hg:=HQ (l.drop k);have Vh:Go.Gd.Good 5 [bA x]:=HQ [x];rw[Yw]at hg;have hdl:((l.map bA).drop k).length=n-k:=by rw[List.length_drop,Wp]
  have hkI:¬(k:Int)=(n:Int):=jB;have Zz:∀j:Nat,1<=j->Nat.min 1 j=[bA x].length:=fun j h=>Nat.min_eq_left h
  have ZA:∀j i:Nat,(j=n-k/\n-k<=i)\/(i=n-k/\n-k<=j)->Nat.min j i=((l.map bA).drop k).length:=fun j i h=>by
   rw[hdl];rcases h with⟨h1,h2⟩|⟨h1,h2⟩
   ·rw[h1];exact Nat.min_eq_left h2
   ·rw[h1];exact Nat.min_eq_right h2
  refine ab.xm (i:=1) (css:=l.map bA) (X:=(l.take k++x::l.drop k).map bA) (l:=[(1,.aG 87 5 (l.map bA))]) 9 jB rfl Wp.symm (fun j r h1 h2=>?_) (by rw[List.length_map,List.length_append,List.length_cons,List.length_take,List.length_drop];omega) (HX _ _) (fun y hy=>by obtain⟨z,_,rfl⟩:=List.mem_map.1 hy;rfl) rfl ?_ fun c hc=>?_
  ·simp only[aA]at h1;split at h1
   ·rename_i e;exact(h2 e).elim
   ·cases h1
  ·have Xo:(n:Int)+1>(n:Int):=jB;show ab _ _ _ [(1,.aG 87 5 (l.map bA))] (fun r l'=>r=.rs 9 (n+1) 5 (n+1)/\l'=[(1,.aG 87 5 (l.map bA)),(9,.aG 87 5 ((l.take k++x::l.drop k).map bA))]);rw[Xv];have XJ:=Ra (A:=l.map bA) (R:=List.replicate (n+1-k) AI) (y:=bA x) (k:=k) jB (by rw[List.length_replicate,Wp]);have Wn:((l.map bA).drop k).take (n-k)=(l.map bA).drop k:=List.take_of_length_le jB;have h9:n+1=((l.map bA).take k++List.replicate (n+1-k) AI).length:=by rw[List.length_append,List.length_take,List.length_replicate,Wp];omega
   have h9':n+1=(dx ((l.map bA).take k++List.replicate (n+1-k) AI) k [bA x]).length:=by rw[tV _ jB,<-h9];simp only[List.length_cons,List.length_nil];omega
   generalize l.map bA=A at*;refine aM func107 ntmps107 ?_;refine S ?_
   (have W:=jA Wp (jA hkI (Xo));repeat' (first|refine av fun K hK=>?_|refine au ?_|(with_reducible refine gR 11 ?_);refine dE 11 (bf 0 9) mixed ?_|(refine hK _ _ ?_;clear hK K)|(refine ar ?_ ?_<;>intro hc<;>try exact jz)|(refine LM (zs:=sy) (j:=9) (k:=n+1-k) (n:=n+1) jG ⟨.i64,jG⟩ jG jG rfl jC rfl Wp.symm jB jB (by simp only[go_sem,room];omega) jB rfl jB ?_;refine S ?_)|(refine yx (k:=1) (ys:=[bA x]) (zs:=sy) rfl h9 jG jG jG rfl jC jB jB (DY (c:=True) rfl trivial Vh) Vh (Zz _ jB) ?_;refine S ?_)|(refine yx (k:=n-k) (ys:=A.drop k) (zs:=sy) rfl h9' jG jG jG rfl jC jB jB (fun w vx h1 h2=>by have:=Hq (n:=n-k) (css:=A) rfl Wp.symm jB jl w vx h1 h2;rwa [Wn]at this) hg (ZA _ _ jB) ?_;refine S ?_)|refine aq ?_|exact jI|(clear hK K)))
   rw[XJ]
   (refine bW [.tmp 6] ?_ ?_<;>(try simp only[go_sem]))
  ·have Xo:¬(n:Int)+1>(c:Int):=jB;show ab _ _ _ [(1,.aG 87 5 (l.map bA++gj 5 (c-n)))] (fun r l'=>r=.rc 1 c 5 (n+1)/\l'=[(1,.aG 87 5 ((l.take k++x::l.drop k).map bA++gj 5 (c-(n+1))))]);rw[Xv];have hSl:(gj 5 (c-n)).length=c-n:=z6;have hS1:(gj 5 (c-n)).drop 1=gj 5 (c-(n+1)):=by unfold gj;rw[List.drop_replicate];congr 1
   have XJ:=Sz (A:=l.map bA) (S:=gj 5 (c-n)) (y:=bA x) (k:=k) jB jB;rw[hS1]at XJ;have h8:c=(l.map bA++gj 5 (c-n)).length:=by rw[List.length_append,Wp,hSl];omega
   have h9:c=(dx (l.map bA++gj 5 (c-n)) (k+1) ((l.map bA).drop k)).length:=by rw[tV _ jB,<-h8,hdl];omega
   have Wn:((l.map bA++gj 5 (c-n)).drop k).take (n-k)=(l.map bA).drop k:=by rw[List.drop_append_of_le_length jB,List.take_append_of_le_length jB,List.take_of_length_le jB]
   have VM:n+1<=c:=jB;generalize gj 5 (c-(n+1))=Sq at*;generalize gj 5 (c-n)=Sp at*;generalize l.map bA=A at*;refine aM func107 ntmps107 ?_;refine S ?_
   (have W:=jA Wp (jA hkI (Xo));repeat' (first|refine av fun K hK=>?_|refine au ?_|(with_reducible refine gR 15 ?_);refine dE 15 (bf 0 9) mixed ?_|(refine hK _ _ ?_;clear hK K)|(refine ar ?_ ?_<;>intro hc<;>try exact jz)|(refine T5 ?_;refine RJ (t:=47) (fn:=Tryz.f123) (tR:=4) func123 jG jG jG jG jG jG rfl h8 jB jB (Nat.zero_lt_succ 0) ?_;refine S ?_)|(refine yx (k:=n+1-k) (ys:=A.drop k) (zs:=sy) rfl h8 jG jG jG rfl jC jB jB (fun w vx h1 h2=>by have:=Hq (n:=n-k) (css:=A++Sp) rfl h8 jB jB w vx h1 h2;rwa [Wn]at this) hg (ZA _ _ jB) ?_;refine S ?_)|(refine yx (k:=1) (ys:=[bA x]) (zs:=sy) rfl h9 jG jG jG rfl jC jB jB (DY (c:=True) rfl trivial Vh) Vh (Zz _ jB) ?_;refine S ?_)|refine aq ?_|exact jI|(clear hK K)))
   rw[XJ]
   (refine bW [.tmp 6] ?_ ?_<;>(try simp only[go_sem]))
def Bz(l:List aB)(hl:l.length<=1000)(i:Nat):ab prog 78 [aP bA 5 l] [] (fun r l'=>r=.rs i l.length 5 l.length/\l'=[(i,.aG 87 5 (l.map bA))]):=by
 refine aM func78 ntmps78 ?_
 (repeat' (first|refine av fun K hK=>?_|refine au ?_|(refine hK _ _ ?_;clear hK K)|(refine ar ?_ ?_<;>intro hc<;>try exact jz)|(with_reducible refine fun(b:Bool) hb=>?_)|refine wb i ?_|refine aq ?_|exact jI|(clear hK K)))
 ·have Vv:l=[]:=by simpa using hb hc
  subst Vv;exact xQ i 87 5 jC [.tmp 2] rfl rfl trivial
 ·(refine bW [.tmp 2] ?_ ?_<;>(try simp only[go_sem]))
def Lh(y x:aB):ab prog 106 [.agg (bA y),.pt 6 0 0 0] [(6,.var 87 (bA x))] (fun r l=>r=rB (decide (x.at_<y.at_))/\l=[(6,.var 87 (bA x))]):=by
 refine aM func106 ntmps106 ?_;refine S ?_
 (repeat' (first|refine av fun K hK=>?_|refine au ?_|(refine hK _ _ ?_;clear hK K)|(refine ar ?_ ?_<;>intro hc<;>try exact jz)|refine bx 9 ?_|refine aq ?_|exact jI|(clear hK K)))
 (refine ba [.tmp 3] ?_;try simp only[go_sem])
def LU(x:aB)(L:List aB)(hL:L.length<=1000)(n:Nat)(hn:n=L.length):ab prog 85 [.rs 1 n 5 n,.dW 106 [.pt 6 0 0 0]] [(1,.aG 87 5 (L.map bA)),(6,.var 87 (bA x))] (fun r l=>r=rI (sk x L)/\l=[(1,.aG 87 5 (L.map bA)),(6,.var 87 (bA x))]):=by
 suffices key:∀z,sk x L=z->ab prog 85 [.rs 1 n 5 n,.dW 106 [.pt 6 0 0 0]] [(1,.aG 87 5 (L.map bA)),(6,.var 87 (bA x))] (fun r l=>r=rI z/\l=[(1,.aG 87 5 (L.map bA)),(6,.var 87 (bA x))]) from key _ rfl
 intro z hz;have Wp:(L.map bA).length=n:=by rw[List.length_map,hn]
 refine aM func85 ntmps85 ?_;refine S ?_
 (repeat' (first|refine av fun K hK=>?_|refine au ?_|(refine hK _ _ ?_;clear hK K)|(refine ar ?_ ?_<;>intro hc<;>try exact jz)|refine aq ?_|exact jI|(clear hK K)))
 have Ux:=hK;clear hK;refine eN (S:=Nat) [(4,2),(8,11)] (fun k=>k<=n/\∀j,j<k->¬x.at_<(nth L j).at_) (fun k=>[(8,rI k)]) (fun _=>⟨[1,6],[(1,.aG 87 5 (L.map bA)),(6,.var 87 (bA x))]⟩) (fun k=>n-k) 0 ⟨Nat.zero_le _,fun j h=>jB⟩ (eR rfl cH) ?_;rintro k ⟨hk,Ur⟩ Kr Ut;by_cases O':k<n
 ·have Uw:=Lh (nth L k) x;have Wa:k<L.length:=jB;by_cases c:x.at_<(nth L k).at_
  ·rw[decide_eq_true c]at Uw;have hp:=EX Ur Wa c;have:z=(k:Int):=by rw[<-hz];unfold sk;rw[hp,if_pos Wa]
   subst this;refine S ?_
   (have W:=jA O' (jA Wp (Wa));repeat' (first|refine av fun K hK=>?_|refine au ?_|(refine hK _ _ ?_;clear hK K)|(refine ar ?_ ?_<;>intro hc<;>try exact jz)|(refine cl Uw ?_)|refine aq ?_|exact jI|(clear hK K)))
   (refine ba [.tmp 4] ?_;try simp only[go_sem])
  ·rw[decide_eq_false c]at Uw;refine S ?_
   (have W:=jA O' (jA Wp (Wa));repeat' (first|refine av fun K hK=>?_|refine au ?_|(refine hK _ _ ?_;clear hK K)|(refine ar ?_ ?_<;>intro hc<;>try exact jz)|(refine cl Uw ?_)|refine aq ?_|exact jI|(clear hK K)))
   exact Ut _ _ (eQ (k+1) ⟨jB,fun j hj=>by
    by_cases e:j<k
    ·exact Ur j e
    ·rw[show j=k from jB];exact c⟩ (by show n-(k+1)<n-k;omega) rfl cH)
 ·have hp:=D9 (x:=x) (L:=L) fun j hj=>Ur j jB
  have:z=-1:=by rw[<-hz];unfold sk;rw[hp,if_neg (Nat.lt_irrefl _)]
  subst this;refine S ?_
  (have W:=jA O' Wp;repeat' (first|refine av fun K hK=>?_|refine au ?_|(refine hK _ _ ?_;clear hK K)|(refine ar ?_ ?_<;>intro hc<;>try exact jz)|refine Ux _ _ ?_|refine aq ?_|exact jI|(clear hK K)))
  (refine ba [.tmp 4] ?_;try simp only[go_sem])
def F6(l all:List aB)(h1:l.length<=500)(h2:all.length<=500):aC prog 77 [aP bA 5 l,aP bA 5 all] (aP bA 5 (gY l all)):=by
 have Uo:=Bz l jB 1;refine bQ func77 ntmps77 ?_
 (repeat' (first|refine av fun K hK=>?_|refine au ?_|(refine hK _ _ ?_;clear hK K)|(refine ar ?_ ?_<;>intro hc<;>try exact jz)|refine cm (Uo) ?_|refine aq ?_|exact jI|(clear hK K)))
 have Ux:=hK;clear hK;refine eN (S:=Nat) [(0,1),(6,2),(12,17)] (fun k=>k<=all.length) (fun k=>[(0,.rs 1 (l.length+k) 5 (l.length+k)),(12,rI k)]) (fun k=>⟨[],[(1,.aG 87 5 ((gY l (all.take k)).map bA))]⟩) (fun k=>all.length-k) 0 (Nat.zero_le _) (eR rfl cH) ?_;rintro k hk Kr Ut;have I':=zA (all.take k) l;rw[List.length_take,Nat.min_eq_left hk]at I';by_cases O':k<all.length
 ·have hsn:gY l (all.take (k+1))=gJ (nth all k) (gY l (all.take k)):=by rw[tS O',Na]
  have hex:(gY l (all.take (k+1))).map bA=((gY l (all.take k)).take (lS (nth all k) (gY l (all.take k)))++nth all k::(gY l (all.take k)).drop (lS (nth all k) (gY l (all.take k)))).map bA:=by rw[hsn,Ch]
  generalize hx:nth all k=x at*;generalize hM:gY l (all.take k)=M at*;have Xa:=LU x M jB (l.length+k) I'.symm;have Xs:=BN x M;have hpi:=S9 M x (lS x M) Xs jB (l.length+k) I'.symm;have YF:((l.length+k:Nat):Int)=(l.length:Int)+k:=by push_cast;rfl
  by_cases hq:lS x M<l.length+k
  ·have hi:sk x M=(lS x M:Int):=by unfold sk;rw[jP]
   rw[hi]at Xa;generalize lS x M=q at*;have hq0:¬(q:Int)<0:=jB;refine S ?_
   (have W:=jA O' (jA hq0 (hx));repeat' (first|refine av fun K hK=>?_|refine au ?_|(refine hK _ _ ?_;clear hK K)|(refine ar ?_ ?_<;>intro hc<;>try exact jz)|refine al 6 ?_|refine cm (Xa) ?_|refine cm (hpi) ?_|refine aq ?_|exact jI|(clear hK K)))
   refine Ut _ _ (py [6] (k+1) jB (by show all.length-(k+1)<all.length-k;omega) rfl Sd ?_ jL);simp only[hex,List.map_append,List.map_cons];rfl
  ·have hi:sk x M=-1:=by unfold sk;rw[jN]
   rw[hi]at Xa;have W9:lS x M=l.length+k:=jB;rw[W9]at hpi hex;refine S ?_
   (have W:=jA O' hx;repeat' (first|refine av fun K hK=>?_|refine au ?_|(refine hK _ _ ?_;clear hK K)|(refine ar ?_ ?_<;>intro hc<;>try exact jz)|refine al 6 ?_|refine cm (Xa) ?_|refine cm (hpi) ?_|refine aq ?_|exact jI|(clear hK K)))
   refine Ut _ _ (py [6] (k+1) jB (by show all.length-(k+1)<all.length-k;omega) rfl Sd ?_ jL);simp only[hex,List.map_append,List.map_cons];rfl
 ·have YU:k=all.length:=jB;subst YU;rw[List.take_length]at I' ⊢;refine S ?_
  (have W:=O';repeat' (first|refine av fun K hK=>?_|refine au ?_|(refine hK _ _ ?_;clear hK K)|(refine ar ?_ ?_<;>intro hc<;>try exact jz)|refine Ux _ _ ?_|refine aq ?_|exact jI|(clear hK K)))
  refine fF [.tmp 4] ?_;exact cY.row (gY l all) rfl rfl (by simp[I'])
def NT(a b:List aB)(h1:a.length<=500)(h2:b.length<=500):aC prog 62 [aP bA 5 a,aP bA 5 b] (aP bA 5 (gY a b)):=by
 have h:=F6 a b h1 h2;refine bQ func62 ntmps62 ?_
 (repeat' (first|refine av fun K hK=>?_|refine au ?_|(refine hK _ _ ?_;clear hK K)|(refine ar ?_ ?_<;>intro hc<;>try exact jz)|refine cp (h) ?_|refine aq ?_|exact jI|(clear hK K)))
 (refine ba [.tmp 4] ?_;try simp only[go_sem])
def Jk(x:aB):aC prog 60 [.agg (bA x)] (rB (lN x)):=by
 have h:=vV x.v;suffices key:∀b,lN x=b->aC prog 60 [.agg (bA x)] (rB b) from key _ rfl
 intro b hb;unfold lN at hb;generalize lW x.v=m at*;have hq:(¬1<=(x.name.size:Int)/\True/\True/\True/\True)\/(1<=(x.name.size:Int)/\¬(x.name.size:Int)<=8/\True/\True/\True)\/(1<=(x.name.size:Int)/\(x.name.size:Int)<=8/\¬0<=x.at_/\True/\True)\/(1<=(x.name.size:Int)/\(x.name.size:Int)<=8/\0<=x.at_/\¬x.at_<=200/\True)\/(1<=(x.name.size:Int)/\(x.name.size:Int)<=8/\0<=x.at_/\x.at_<=200/\x.v.ty=4)\/(1<=(x.name.size:Int)/\(x.name.size:Int)<=8/\0<=x.at_/\x.at_<=200/\¬x.v.ty=4):=by
  by_cases c1:1<=(x.name.size:Int)
  rotate_left
  ·exact .inl ⟨c1,trivial,trivial,trivial,trivial⟩
  by_cases c2:(x.name.size:Int)<=8
  rotate_left
  ·exact .inr (.inl ⟨c1,c2,trivial,trivial,trivial⟩)
  by_cases c3:0<=x.at_
  rotate_left
  ·exact .inr (.inr (.inl ⟨c1,c2,c3,trivial,trivial⟩))
  by_cases c4:x.at_<=200
  rotate_left
  ·exact .inr (.inr (.inr (.inl ⟨c1,c2,c3,c4,trivial⟩)))
  by_cases c5:x.v.ty=4
  ·exact .inr (.inr (.inr (.inr (.inl ⟨c1,c2,c3,c4,c5⟩))))
  ·exact .inr (.inr (.inr (.inr (.inr ⟨c1,c2,c3,c4,c5⟩))))
 have n1:(1<=x.name.size)<->1<=(x.name.size:Int):=jB;have n2:(x.name.size<=8)<->(x.name.size:Int)<=8:=jB;rcases hq with⟨c1,c2,c3,c4,c5⟩|⟨c1,c2,c3,c4,c5⟩|⟨c1,c2,c3,c4,c5⟩|⟨c1,c2,c3,c4,c5⟩|⟨c1,c2,c3,c4,c5⟩|⟨c1,c2,c3,c4,c5⟩
 all_goals
  refine bQ func60 ntmps60 ?_
  (have W:=jA c1 (jA c2 (jA c3 (jA c4 (c5))));repeat' (first|refine av fun K hK=>?_|refine au ?_|(refine hK _ _ ?_;clear hK K)|(refine ar ?_ ?_<;>intro hc<;>try exact jz)|refine bx 3 ?_|(first|refine cg (h) ?_|refine qb (h) ?_)|refine cq (h) ?_|refine⟨rB true,?_⟩|refine aq ?_|exact jI|(clear hK K)))
  (refine ba [.tmp 2] ?_;try simp only[go_sem])
  refine Fl ?_;rw[<-hb];simp[n1,n2,c1,c2,c3,c4,c5]
def Cr:aB:=⟨0,⟨#[]⟩,⟨0,0,⟨#[]⟩⟩⟩
def HS(y:aB)(t:Int):ab prog 81 [.agg (bA y),.pt 6 0 0 0] [(6,.var 3 [rI t])] (fun r l=>r=rB (decide (t<y.at_))/\l=[(6,.var 3 [rI t])]):=by
 refine aM func81 ntmps81 ?_;refine S ?_
 (repeat' (first|refine av fun K hK=>?_|refine au ?_|(refine hK _ _ ?_;clear hK K)|(refine ar ?_ ?_<;>intro hc<;>try exact jz)|refine bx 9 ?_|refine aq ?_|exact jI|(clear hK K)))
 (refine ba [.tmp 3] ?_;try simp only[go_sem])
def Pv(t:Int)(L:List aB)(hL:L.length<=1000)(n:Nat)(hn:n=L.length):ab prog 85 [.rs 1 n 5 n,.dW 81 [.pt 6 0 0 0]] [(1,.aG 87 5 (L.map bA)),(6,.var 3 [rI t])] (fun r l=>r=rI (tF t L)/\l=[(1,.aG 87 5 (L.map bA)),(6,.var 3 [rI t])]):=by
 suffices key:∀z,tF t L=z->ab prog 85 [.rs 1 n 5 n,.dW 81 [.pt 6 0 0 0]] [(1,.aG 87 5 (L.map bA)),(6,.var 3 [rI t])] (fun r l=>r=rI z/\l=[(1,.aG 87 5 (L.map bA)),(6,.var 3 [rI t])]) from key _ rfl
 intro z hz;have Wp:(L.map bA).length=n:=by rw[List.length_map,hn]
 refine aM func85 ntmps85 ?_;refine S ?_
 (repeat' (first|refine av fun K hK=>?_|refine au ?_|(refine hK _ _ ?_;clear hK K)|(refine ar ?_ ?_<;>intro hc<;>try exact jz)|refine aq ?_|exact jI|(clear hK K)))
 have Ux:=hK;clear hK;refine eN (S:=Nat) [(4,2),(8,11)] (fun k=>k<=n/\∀j,j<k->¬t<(nth L j).at_) (fun k=>[(8,rI k)]) (fun _=>⟨[1,6],[(1,.aG 87 5 (L.map bA)),(6,.var 3 [rI t])]⟩) (fun k=>n-k) 0 ⟨Nat.zero_le _,fun j h=>jB⟩ (eR rfl cH) ?_;rintro k ⟨hk,Ur⟩ Kr Ut;by_cases O':k<n
 ·have Uw:=HS (nth L k) t;have Wa:k<L.length:=jB;by_cases c:t<(nth L k).at_
  ·rw[decide_eq_true c]at Uw;have hp:=Iw Ur Wa c;have:z=(k:Int):=by rw[<-hz];unfold tF;rw[hp,if_pos Wa]
   subst this;refine S ?_
   (have W:=jA O' (jA Wp (Wa));repeat' (first|refine av fun K hK=>?_|refine au ?_|(refine hK _ _ ?_;clear hK K)|(refine ar ?_ ?_<;>intro hc<;>try exact jz)|(refine cl Uw ?_)|refine aq ?_|exact jI|(clear hK K)))
   (refine ba [.tmp 4] ?_;try simp only[go_sem])
  ·rw[decide_eq_false c]at Uw;refine S ?_
   (have W:=jA O' (jA Wp (Wa));repeat' (first|refine av fun K hK=>?_|refine au ?_|(refine hK _ _ ?_;clear hK K)|(refine ar ?_ ?_<;>intro hc<;>try exact jz)|(refine cl Uw ?_)|refine aq ?_|exact jI|(clear hK K)))
   exact Ut _ _ (eQ (k+1) ⟨jB,fun j hj=>by
    by_cases e:j<k
    ·exact Ur j e
    ·rw[show j=k from jB];exact c⟩ (by show n-(k+1)<n-k;omega) rfl cH)
 ·have hp:=JU (t:=t) (L:=L) fun j hj=>Ur j jB
  have:z=-1:=by rw[<-hz];unfold tF;rw[hp,if_neg (Nat.lt_irrefl _)]
  subst this;refine S ?_
  (have W:=jA O' Wp;repeat' (first|refine av fun K hK=>?_|refine au ?_|(refine hK _ _ ?_;clear hK K)|(refine ar ?_ ?_<;>intro hc<;>try exact jz)|refine Ux _ _ ?_|refine aq ?_|exact jI|(clear hK K)))
  (refine ba [.tmp 4] ?_;try simp only[go_sem])
def RH(t:Int)(L:List aB)(hL:L.length<=1000)(n:Nat)(hn:n=L.length):ab prog 80 [.rs 1 n 5 n,.dW 81 [.pt 6 0 0 0]] [(1,.aG 87 5 (L.map bA)),(6,.var 3 [rI t])] (fun r l=>r=.rs 1 n 5 (ci L t).length/\l=[(1,.aG 87 5 ((ci L t++List.replicate (n-(ci L t).length) Cr).map bA)),(6,.var 3 [rI t])]):=by
 have Xa:=Pv t L hL n hn;have Z7:=El t L;have Wp:(L.map bA).length=n:=by rw[List.length_map,hn]
 by_cases hq:jb t L<L.length
 rotate_left
 ·have hi:tF t L=-1:=by unfold tF;rw[if_neg hq]
  have he:ci L t=L:=by have:=Ay t L;rwa [show jb t L=L.length from jB,List.take_length]at this
  rw[hi]at Xa;rw[he,<-hn,Nat.sub_self];simp only[List.replicate_zero,List.append_nil];refine aM func80 ntmps80 ?_;refine S ?_
  (repeat' (first|refine av fun K hK=>?_|refine au ?_|(refine hK _ _ ?_;clear hK K)|(refine ar ?_ ?_<;>intro hc<;>try exact jz)|refine cm (Xa) ?_|refine aq ?_|exact jI|(clear hK K)))
  (refine ba [.tmp 4] ?_;try simp only[go_sem])
 ·have hi:tF t L=(jb t L:Int):=by unfold tF;rw[if_pos hq]
  have hE0:=Ay t L;have Vm:=Ei hq;rw[hi]at Xa;have W9:¬(jb t L:Int)=-1:=jB;have hE1:ci (L.take (jb t L+1)) t=L.take (jb t L):=by rw[tS hq,Jp,jN,hE0]
  have ZF:L.take (jb t L)++[nth L (jb t L)]++L.drop (jb t L+1)=L:=by rw[<-tS hq,List.take_append_drop]
  generalize jb t L=q at*;have XD:(L.take q).length=q:=by rw[List.length_take];omega
  refine aM func80 ntmps80 ?_;refine S ?_
  (have W:=W9;repeat' (first|refine av fun K hK=>?_|refine au ?_|(refine hK _ _ ?_;clear hK K)|(refine ar ?_ ?_<;>intro hc<;>try exact jz)|refine cm (Xa) ?_|refine aq ?_|exact jI|(clear hK K)))
  have Ux:=hK;clear hK;refine eN (S:=Nat×List aB) [(5,3),(16,20)] (fun s=>s.1<=n/\(ci (L.take s.1) t).length+s.2.length=s.1/\0<s.2.length) (fun s=>[(5,rI (ci (L.take s.1) t).length),(6,rI s.1)]) (fun s=>⟨[1,6],[(1,.aG 87 5 ((ci (L.take s.1) t++s.2++L.drop s.1).map bA)),(6,.var 3 [rI t])]⟩) (fun s=>n-s.1) (q+1,[nth L q]) ⟨by show q+1<=n;omega,by show(ci (L.take (q+1)) t).length+1=q+1;rw[hE1,XD],Nat.zero_lt_succ 0⟩ ?_ ?_
  ·show dV _ _ (mM [(5,rI (ci (L.take (q+1)) t).length),(6,rI (q+1:Nat))] _) ⟨[1,6],[(1,.aG 87 5 ((ci (L.take (q+1)) t++[nth L q]++L.drop (q+1)).map bA)),(6,.var 3 [rI t])]⟩;rw[hE1,ZF,XD];exact eR rfl cH
  rintro⟨j,J⟩ ⟨hj,I',hJ⟩ Kr Ut;have hj:j<=n:=hj;have I':(ci (L.take j) t).length+J.length=j:=I';have hJ:0<J.length:=hJ;by_cases O':j<n
  ·have Y0:j<L.length:=jB;have Wn:=tS Y0;have YW:ci (L.take (j+1)) t=if(nth L j).at_<=t then ci (L.take j) t++[nth L j]else ci (L.take j) t:=by rw[Wn,Jp]
   have Yw:L.drop j=nth L j::L.drop (j+1):=by rw[fO Y0];exact List.drop_eq_getElem_cons Y0
   have Uw:=HS (nth L j) t;generalize hx:nth L j=x at*;generalize hE:ci (L.take j) t=E at*;have Zr:nth (E++J++L.drop j) j=x:=by rw[Yw];unfold nth;rw[List.getD_eq_getElem?_getD,List.getElem?_append_right (by rw[List.length_append];omega),List.length_append,I',Nat.sub_self];rfl
   have Ws:(E++J++L.drop j).length=n:=by rw[List.length_append,List.length_append,List.length_drop];omega
   generalize hR:E++J++L.drop j=R at*;by_cases c:t<x.at_
   ·rw[decide_eq_true c]at Uw;rw[jN]at YW;refine S ?_
    (have W:=jA O' (jA Zr (Ws));repeat' (first|refine av fun K hK=>?_|refine au ?_|(refine hK _ _ ?_;clear hK K)|(refine ar ?_ ?_<;>intro hc<;>try exact jz)|refine al 7 ?_|(refine cl Uw ?_)|refine aq ?_|exact jI|(clear hK K)))
    have Vs:ci (L.take (j+1)) t++(J++[x])++L.drop (j+1)=R:=by rw[YW,<-hR,Yw];simp
    refine Ut _ _ (py [7] (j+1,J++[x]) ⟨by show j+1<=n;omega,by show(ci (L.take (j+1)) t).length+(J++[x]).length=j+1;rw[YW,List.length_append];simp only[List.length_cons,List.length_nil];omega,by show 0<(J++[x]).length;rw[List.length_append];omega⟩ (by show n-(j+1)<n-j;omega) rfl Sd ?_ ?_)
    ·simp only[Vs];rfl
    ·simp only[YW];exact jL
   ·rw[decide_eq_false c]at Uw;rw[jP]at YW;refine S ?_
    (have W:=jA O' (jA Zr (Ws));repeat' (first|refine av fun K hK=>?_|refine au ?_|(refine hK _ _ ?_;clear hK K)|(refine ar ?_ ?_<;>intro hc<;>try exact jz)|refine al 7 ?_|(refine cl Uw ?_)|refine aq ?_|exact jI|(clear hK K)))
    have Um:(R.map bA).set E.length (bA x++List.drop 5 (bA (nth R E.length)))=(R.set E.length x).map bA:=(List.map_set (f:=bA)).symm;have Vs:ci (L.take (j+1)) t++(J.drop 1++[x])++L.drop (j+1)=R.set E.length x:=by
     rw[YW,<-hR,Yw];obtain⟨y,J',rfl⟩:∃y J',J=y::J':=by
      cases J with
      |nil=>simp at hJ
      |cons y J'=>exact⟨y,J',rfl⟩
     simp
    rw[Um];refine Ut _ _ (py [7] (j+1,J.drop 1++[x]) ⟨by show j+1<=n;omega,by show(ci (L.take (j+1)) t).length+(J.drop 1++[x]).length=j+1;rw[YW,List.length_append,List.length_append,List.length_drop];simp only[List.length_cons,List.length_nil];omega,by show 0<(J.drop 1++[x]).length;rw[List.length_append];simp only[List.length_cons];omega⟩ (by show n-(j+1)<n-j;omega) rfl Sd ?_ ?_)
    ·simp only[Vs];rfl
    ·simp only[YW,List.length_append,List.length_cons,List.length_nil];exact jL
  ·have hje:j=n:=jB;subst hje;have hz:((ci (L.take j) t++J++L.drop j).map bA).length=j:=by rw[List.length_map,List.length_append,List.length_append,List.length_drop];omega
   rw[hn,List.take_length,<-hn]at I';rw[hn,List.take_length,List.drop_length,List.append_nil,<-hn]at hz ⊢;have XJ:dx ((ci L t++J).map bA) (ci L t).length (List.replicate (j-(ci L t).length) (sy.map AV.raw))=(ci L t++List.replicate (j-(ci L t).length) Cr).map bA:=by unfold dx;rw[List.map_append,List.map_append,List.map_replicate];have h1:=List.take_left (l₁:=(ci L t).map bA) (l₂:=J.map bA);rw[List.length_map]at h1;rw[h1,List.length_replicate,List.drop_of_length_le (by rw[List.length_append,List.length_map,List.length_map];omega),List.append_nil];rfl
   generalize ci L t=E at*;simp only[List.map_append]at hz XJ;refine S ?_
   (have W:=jA O' hz;repeat' (first|refine av fun K hK=>?_|refine au ?_|(refine hK _ _ ?_;clear hK K)|(refine ar ?_ ?_<;>intro hc<;>try exact jz)|(refine DU (zs:=sy) rfl hz.symm jG jG jG rfl jC rfl jB ?_;refine S ?_)|refine Ux _ _ ?_|refine aq ?_|exact jI|(clear hK K)))
   rw[XJ]
   (refine ba [.tmp 4] ?_;try simp only[go_sem])
def DG(l:List aB)(t:Int)(hl:l.length<=1000):aC prog 53 [aP bA 5 l,rI t] (aP bA 5 (ci l t)):=by
 have Uo:=Bz l hl 1;have hd:=RH t l hl _ rfl;have Wu:=A4 l t;refine bQ func53 ntmps53 ?_
 (repeat' (first|refine av fun K hK=>?_|refine au ?_|(refine hK _ _ ?_;clear hK K)|(refine ar ?_ ?_<;>intro hc<;>try exact jz)|refine bx 6 ?_|refine cm (Uo) ?_|refine cm (hd) ?_|refine aq ?_|exact jI|(clear hK K)))
 refine fF [.tmp 4] ?_;exact cY.pI (ci l t) (List.replicate (l.length-(ci l t).length) Cr) rfl (by rw[List.map_append];rfl) (by rw[List.length_replicate];omega) rfl
end Go.Proofs.YtijdhbokcdpklaaGreatDoor
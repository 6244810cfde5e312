/- Lemmas. No conditions. -/
import Derived.Test.YtijdhbokcdpklaaGreatDoorRpQ
set_option linter.all false
set_option maxHeartbeats 4000000
set_option maxRecDepth 10000
namespace Go.Gd
open Go
namespace MV
def iX.wb{c:MC}{n:NC}{e l:UL}(h:iX c n e)(hs:∀i r,aC e i=some r->aC l i=some r):iX c n l:=⟨hs _ _ h.var,hs _ _ h.cO,hs _ _ h.eZ,h.bd⟩
theorem bL.wb{p:af}{C:aI}{m:MV}{N:NM}{e l:UL}(h:bL p C m N e)(hl:fO 0 l)(hs:∀i r,aC e i=some r->aC l i=some r):bL p C m N l:=
 ⟨hl,hs _ _ h.root,hs _ _ h.row,hs _ _ h.hp,hs _ _ h.cells,hs _ _ h.ends,hs _ _ h.outs,h.len,fun k hk=>(h.call k hk).wb hs,h.nc,h.nv,h.bd⟩
end MV
theorem FP:∀(m l:UL),(ids l).Nodup->(ids (gx l m)).Nodup
 |[],_,h=>h
 |(i,r)::m,l,h=>FP m _ (DX l i r h)
variable{s' E:UL}
def wi(h:(ids s').Nodup)(i:Nat):aC (gx E s') i=(aC s' i).or (aC E i):=uR _ _ _ (fun _ _ _=>trivial) h
def fO.BR(hE:fO 0 E)(h:fO 0 s'):fO 0 (gx E s'):=by
 have hm:∀j,(ids s').contains j=true\/(ids E).contains j=true->(ids (gx E s')).contains j=true:=fun j hj=>by
  rw[List.contains_iff_mem,lH,wi h.nodup];rcases hj with hj|hj
  ·have:=(lH s' j).1 (List.contains_iff_mem.1 hj);cases e:aC s' j with
   |none=>exact(this e).elim
   |some r=>simp
  ·have:=(lH E j).1 (List.contains_iff_mem.1 hj);cases e:aC s' j with
   |none=>simpa using this
   |some r=>simp
 refine⟨fun j h1 h2=>by rw[wi h.nodup,h.no j h1 h2,hE.no j h1 h2];rfl,FP _ _ hE.nodup,fun j r hj=>?_⟩;rw[wi h.nodup]at hj;cases e:aC s' j with
 |some r'=>rw[e]at hj;cases hj;exact fX (fun k hk=>hm k (.inl hk)) _ (h.closed j _ e)
 |none=>rw[e,Option.none_or]at hj;exact fX (fun k hk=>hm k (.inr hk)) _ (hE.closed j _ hj)
theorem cW.more{P:UY}{f:FuncId}{args:UM}{s s' E:UL}{r0:AV}(h:cW P f args s r0 s')(hE:fO 0 E)(hs:∀i r,aC s i=some r->aC E i=some r)(hn:∀i,aC s' i≠none->aC s i≠none\/aC E i=none):cW P f args E r0 (gx E s'):=by
 have hc:=ab.more h.c hs h.a h.e1.closed (fun r l ⟨_,e⟩=>⟨by rw[e];exact h.e2.nodup,fun i hi=>hn i (e ▸ hi)⟩);refine⟨fun w vs hw hv=>(hc w vs hw hv).mono ?_,hE,hE.BR h.e2,fun i hi=>?_,fX (fun j hj=>?_) _ h.a⟩
 ·rintro e W ⟨v,r,H',w',a,b,⟨l0,⟨c1,c2⟩,c3⟩,d⟩;exact⟨v,r,H',w',a,b,⟨c1,by rw[c3,c2]⟩,d⟩
 ·rw[wi h.e2.nodup];cases e:aC s' i with
  |none=>simpa using hi
  |some r=>simp
 ·rw[List.contains_iff_mem,lH]at hj ⊢;cases e:aC s j with
  |none=>exact(hj e).elim
  |some r=>rw[hs j r e];simp
def ji:List az->Prop
 |[]=>True
 |x::l=>(∀y,l.head?=some y->x.at_<=y.at_)/\ji l
def cv(E:List az)(t:Int):List az:=E.filter fun x=>decide (x.at_<=t)
theorem DH{t:Int}:∀(l:List az) (x:az),ji (x::l)->t<x.at_->cv l t=[]/\∀k,k<l.length->t<(nth l k).at_
 |[],x,_,_=>⟨rfl,fun k hk=>by simp at hk⟩
 |y::l,x,h,hx=>by
  have hy:t<y.at_:=by have:=h.1 y rfl;omega
  obtain⟨a,b⟩:=DH l y h.2 hy;refine⟨?_,fun k hk=>?_⟩
  ·unfold cv at a ⊢;rw[List.filter_cons_of_neg jF,a]
  ·cases k with
   |zero=>exact hy
   |succ k=>exact b k (by simpa using hk)
theorem DF{t:Int}:∀(E:List az),ji E->∃K,K<=E.length/\cv E t=E.take K/\∀k,K<=k->k<E.length->t<(nth E k).at_
 |[],_=>⟨0,Nat.le_refl _,rfl,fun k _ hk=>by simp at hk⟩
 |x::l,h=>by
  by_cases c:x.at_<=t
  ·obtain⟨K,h1,h2,h3⟩:=DF l h.2;refine⟨K+1,by simp;omega,?_,fun k hk hl=>?_⟩
   ·unfold cv at h2 ⊢;rw[List.filter_cons_of_pos (by simpa using c),h2];rfl
   ·cases k with
    |zero=>omega
    |succ k=>exact h3 k jB (by simpa using hl)
  ·obtain⟨a,b⟩:=DH (t:=t) l x h jB;refine⟨0,Nat.zero_le _,?_,fun k _ hk=>?_⟩
   ·unfold cv at a ⊢;rw[List.filter_cons_of_neg (by simpa using c),a];rfl
   ·cases k with
    |zero=>show t<x.at_;omega
    |succ k=>exact b k (by simpa using hk)
def gX(x:az):List az->List az
 |[]=>[x]
 |y::l=>if x.at_<y.at_ then x::y::l else y::gX x l
def ie:List az->List az->List az
 |a,[]=>a
 |a,x::b=>ie (gX x a) b
def lP(x:az):List az->Nat
 |[]=>0
 |y::l=>if x.at_<y.at_ then 0 else lP x l+1
def jS(x:az):Bool:=decide (1<=x.name.size) && decide (x.name.size<=8) && decide (0<=x.at_) && decide (x.at_<=200) && decide (x.v.ty≠4) && mg x.v
theorem Ch(x:az):∀l,lP x l<=l.length
 |[]=>Nat.le_refl _
 |y::l=>by
  unfold lP;split
  ·exact Nat.zero_le _
  ·have:=Ch x l;simp only[List.length_cons];omega
theorem Cl(x:az):∀l,gX x l=l.take (lP x l)++x::l.drop (lP x l)
 |[]=>rfl
 |y::l=>by
  unfold gX lP;split
  ·rfl
  ·rw[Cl x l];rfl
def iH(x:az)(l:List az):(gX x l).length=l.length+1:=by have:=Ch x l;rw[Cl,List.length_append,List.length_cons,List.length_take,List.length_drop];omega
theorem zO:∀(b a:List az),(ie a b).length=a.length+b.length
 |[],a=>rfl
 |x::b,a=>by show(ie (gX x a) b).length=_;rw[zO b,iH];simp only[List.length_cons];omega
theorem uS{x y:az}:∀{l:List az},y∈gX x l<->y=x\/y∈l
 |[]=>by simp[gX]
 |z::l=>by
  unfold gX;split
  ·simp
  ·rw[List.mem_cons,uS,List.mem_cons];constructor
   ·rintro(h|h|h)
    ·exact .inr (.inl h)
    ·exact .inl h
    ·exact .inr (.inr h)
   ·rintro(h|h|h)
    ·exact .inr (.inl h)
    ·exact .inl h
    ·exact .inr (.inr h)
theorem Ah{y:az}:∀{b a:List az},y∈ie a b<->y∈a\/y∈b
 |[],a=>by simp[ie]
 |x::b,a=>by
  show y∈ie (gX x a) b<->_;rw[Ah,uS,List.mem_cons];constructor
  ·rintro((h|h)|h)
   ·exact .inr (.inl h)
   ·exact .inl h
   ·exact .inr (.inr h)
  ·rintro(h|h|h)
   ·exact .inl (.inr h)
   ·exact .inl (.inl h)
   ·exact .inr h
theorem yb(x:az):∀{l:List az},ji l->ji (gX x l)
 |[],_=>⟨fun y h=>(by cases h),trivial⟩
 |z::l,h=>by
  unfold gX;split
  ·rename_i c;refine⟨fun y hy=>?_,h⟩;cases hy;omega
  ·rename_i c;refine⟨fun y hy=>?_,yb x h.2⟩;cases l with
   |nil=>cases hy;omega
   |cons w l=>
    unfold gX at hy;split at hy
    ·cases hy;omega
    ·have h3:=h.1 w rfl;cases hy;exact h3
theorem Ds:∀{b a:List az},ji a->ji (ie a b)
 |[],_,h=>h
 |x::b,a,h=>Ds (b:=b) (yb x h)
theorem Ad{x:az}{t:Int}(h:t<x.at_):∀l,cv (gX x l) t=cv l t
 |[]=>by unfold cv gX;rw[List.filter_cons_of_neg jF]
 |z::l=>by
  have ih:=Ad h l;unfold gX;split
  ·unfold cv;rw[List.filter_cons_of_neg jF]
  ·unfold cv at ih ⊢;rw[List.filter_cons,List.filter_cons,ih]
def J5{a t:Int}(h:t<=a)(l:List az):cv (cv l a) t=cv l t:=by
 unfold cv;rw[List.filter_filter];congr 1
 funext x
 by_cases c:x.at_<=t
 ·simp[c];omega
 ·simp[c]
def rL{l:List az}{t:Int}{x:az}(h:x∈cv l t):x∈l/\x.at_<=t:=by unfold cv at h;rw[List.mem_filter]at h;exact⟨h.1,by simpa using h.2⟩
theorem GB{x:az}:∀{l:List az},ji (x::l)->∀y∈l,x.at_<=y.at_
 |[],_,y,h=>by cases h
 |z::l,h,y,hy=>by
  have h1:=h.1 z rfl;rcases List.mem_cons.1 hy with rfl|hy
  ·exact h1
  ·have:=GB h.2 y hy;omega
def QO{x:az}{l:List az}(h:ji l)(h2:∀y∈l,x.at_<=y.at_):ji (x::l):=
 ⟨fun y hy=>h2 y (by cases l with|nil=>cases hy|cons z l=>cases hy;simp),h⟩
theorem xg{t:Int}:∀{l:List az},ji l->ji (cv l t)
 |[],_=>trivial
 |x::l,h=>by
  have ih:=xg (t:=t) h.2;unfold cv at ih ⊢;rw[List.filter_cons];split
  ·exact QO ih fun y hy=>GB h y ((List.mem_filter.1 hy).1)
  ·exact ih
variable{A:UK}{k:Nat}
def Mw{S:UK}{y:UM}(hk:k<A.length)(hS:0<S.length):dz (dz (A++S) (k+1) (A.drop k)) k [y]=A.take k++y::A.drop k++S.drop 1:=by
 unfold dz;simp only[List.length_drop,List.length_cons,List.length_nil];have h1:(A++S).take (k+1)=A.take (k+1):=by rw[List.take_append_of_le_length jB]
 have h2:(A++S).drop (k+1+(A.length-k))=S.drop 1:=by rw[show k+1+(A.length-k)=A.length+1 from jB,<-List.drop_drop,List.drop_left]
 have h3:(A.take (k+1)).length=k+1:=by rw[List.length_take];omega
 rw[h1,h2,List.append_assoc (A.take (k+1)),List.take_append_of_le_length (l₁:=A.take (k+1)) jB,List.take_take,Nat.min_eq_left jB];rw[show k+(0+1)=k+1 from jB];have h4:(A.take (k+1)++(A.drop k++S.drop 1)).drop (k+1)=A.drop k++S.drop 1:=by have:=List.drop_left (l₁:=A.take (k+1)) (l₂:=A.drop k++S.drop 1);rwa [h3]at this
 rw[h4];simp
def Sc{R:UK}{y:UM}(hk:k<A.length)(hR:R.length=A.length+1-k):dz (dz (A.take k++R) k [y]) (k+1) (A.drop k)=A.take k++y::A.drop k:=by
 have h3:(A.take k).length=k:=by rw[List.length_take];omega
 unfold dz;simp only[List.length_drop,List.length_cons,List.length_nil];have h4:(A.take k++R).take k=A.take k:=by have:=List.take_left (l₁:=A.take k) (l₂:=R);rwa [h3]at this
 have h5:(A.take k++R).drop (k+(0+1))=R.drop 1:=by rw[show k+(0+1)=k+1 from jB,<-List.drop_drop];have:=List.drop_left (l₁:=A.take k) (l₂:=R);rw[h3]at this;rw[this]
 rw[h4,h5];have h6:(A.take k++[y]++R.drop 1).take (k+1)=A.take k++[y]:=by have:=List.take_left (l₁:=A.take k++[y]) (l₂:=R.drop 1);rwa [List.length_append,h3,List.length_cons,List.length_nil]at this
 have h7:(A.take k++[y]++R.drop 1).drop (k+1+(A.length-k))=[]:=by apply List.drop_of_length_le;rw[List.length_append,List.length_append,h3,List.length_drop];simp only[List.length_cons,List.length_nil];omega
 rw[h6,h7];simp
def sZ:UW:=[.int .i64 0,.string ⟨#[]⟩,.int .i64 0,.int .i64 0,.string ⟨#[]⟩]
abbrev Bt:UM:=List.map AV.raw sZ
theorem JL(q:UX):∀l:List az,aZ q (l.map bv).flatten=true
 |[]=>rfl
 |x::l=>by rw[List.map_cons,List.flatten_cons,vv,JL q l,Fz];rfl
theorem II{x:az}:∀{L:List az} {k:Nat},(∀j,j<k->¬x.at_<(nth L j).at_)->k<L.length->x.at_<(nth L k).at_->lP x L=k
 |[],k,_,h,_=>by simp at h
 |y::L,0,_,_,h=>by exact if_pos h
 |y::L,k+1,h1,h2,h3=>by show(if x.at_<y.at_ then 0 else lP x L+1)=_;rw[if_neg (show¬x.at_<y.at_ from h1 0 jB),II (L:=L) (k:=k) (fun j hj=>h1 (j+1) jB) (by simpa using h2) h3]
theorem Jj{x:az}:∀{L:List az},(∀j,j<L.length->¬x.at_<(nth L j).at_)->lP x L=L.length
 |[],_=>rfl
 |y::L,h=>by show(if x.at_<y.at_ then 0 else lP x L+1)=_;rw[if_neg (show¬x.at_<y.at_ from h 0 jE),Jj (L:=L) (fun j hj=>h (j+1) jF)];rfl
def tv(x:az)(L:List az):Int:=if lP x L<L.length then(lP x L:Int)else -1
def QI(l:List az):∀(a:List az) (x:az),ie l (a++[x])=gX x (ie l a):=fun a=>by
 induction a generalizing l with
 |nil=>intro x;rfl
 |cons y a ih=>intro x;exact ih (gX y l) x
def jm(t:Int):List az->Nat
 |[]=>0
 |y::l=>if t<y.at_ then 0 else jm t l+1
theorem E8{t:Int}:∀{L:List az} {k:Nat},(∀j,j<k->¬t<(nth L j).at_)->k<L.length->t<(nth L k).at_->jm t L=k
 |[],k,_,h,_=>by simp at h
 |y::L,0,_,_,h=>if_pos h
 |y::L,k+1,h1,h2,h3=>by show(if t<y.at_ then 0 else jm t L+1)=_;rw[if_neg (show¬t<y.at_ from h1 0 jB),E8 (L:=L) (k:=k) (fun j hj=>h1 (j+1) jB) (by simpa using h2) h3]
theorem F5{t:Int}:∀{L:List az},(∀j,j<L.length->¬t<(nth L j).at_)->jm t L=L.length
 |[],_=>rfl
 |y::L,h=>by show(if t<y.at_ then 0 else jm t L+1)=_;rw[if_neg (show¬t<y.at_ from h 0 jE),F5 (L:=L) (fun j hj=>h (j+1) jF)];rfl
def tK(t:Int)(L:List az):Int:=if jm t L<L.length then(jm t L:Int)else -1
theorem JS(t:Int):∀L,jm t L<=L.length
 |[]=>Nat.le_refl _
 |y::l=>by
  unfold jm;split
  ·exact Nat.zero_le _
  ·have:=JS t l;simp only[List.length_cons];omega
theorem Dg(t:Int):∀L:List az,cv (L.take (jm t L)) t=L.take (jm t L)
 |[]=>rfl
 |y::l=>by
  unfold jm;split
  ·rfl
  ·rename_i c;have ih:=Dg t l;unfold cv at ih ⊢;rw[List.take_succ_cons,List.filter_cons_of_pos (by simpa using Int.not_lt.1 c),ih]
theorem HO{t:Int}:∀{L:List az},jm t L<L.length->t<(nth L (jm t L)).at_
 |[],h=>by simp[jm]at h
 |y::l,h=>by
  unfold jm at h ⊢;split
  ·rename_i c;exact c
  ·rename_i c;rw[if_neg c]at h;simp only[List.length_cons]at h;exact HO (L:=l) jB
def Ei(L:List az)(x:az)(t:Int):cv (L++[x]) t=if x.at_<=t then cv L t++[x]else cv L t:=by
 unfold cv;rw[List.filter_append];split
 ·rename_i h;rw[List.filter_cons_of_pos (by simpa using h)];rfl
 ·rename_i h;rw[List.filter_cons_of_neg (by simpa using h)];simp
def AQ(L:List az)(t:Int):(cv L t).length<=L.length:=List.length_filter_le _ _
def zX{α:Type}[Inhabited α]{l:List α}{n:Nat}(h:k<n):nth (l.take n) k=nth l k:=by unfold nth;rw[List.getD_eq_getElem?_getD,List.getElem?_take,if_pos h,List.getD_eq_getElem?_getD]
def iB(name:UR)(ty:Int):List bI->Int->Int
 |[],_=>-1
 |v::l,i=>if v.name=name/\v.ty=ty then i else iB name ty l (i+1)
theorem JX(name:UR)(ty:Int):∀(l:List bI) (i:Int),0<=i->(iB name ty l i=-1\/(i<=iB name ty l i/\iB name ty l i<i+l.length))
 |[],i,_=>.inl rfl
 |v::l,i,h=>by
  unfold iB;split
  ·right;simp only[List.length_cons];omega
  ·rcases JX name ty l (i+1) jB with e|e
   ·exact .inl e
   ·right;simp only[List.length_cons];omega
theorem zL(name:UR)(ty:Int):∀(l:List bI) (i:Nat),0<=iB name ty l (i:Int)->∃k:Nat,iB name ty l (i:Int)=(i:Int)+k/\k<l.length/\((nth l k).name=name/\(nth l k).ty=ty)/\∀j,j<k->¬((nth l j).name=name/\(nth l j).ty=ty)
 |[],i,h=>by unfold iB at h;omega
 |v::l,i,h=>by
  unfold iB at h ⊢;by_cases c:v.name=name/\v.ty=ty
  ·rw[if_pos c];exact⟨0,jB,jE,c,fun j hj=>jB⟩
  ·rw[if_neg c]at h ⊢;obtain⟨k,e,hk,g,f⟩:=zL name ty l (i+1) (by push_cast;exact h);refine⟨k+1,by push_cast at e ⊢;omega,by simp;omega,g,fun j hj=>?_⟩;cases j with
   |zero=>exact c
   |succ j=>exact f j jB
theorem Fq(name:UR)(ty:Int):∀(l:List bI) (i:Nat),iB name ty l (i:Int)<0->∀j,j<l.length->¬((nth l j).name=name/\(nth l j).ty=ty)
 |[],i,h,j,hj=>by simp at hj
 |v::l,i,h,j,hj=>by
  unfold iB at h;by_cases c:v.name=name/\v.ty=ty
  ·rw[if_pos c]at h;omega
  ·rw[if_neg c]at h;cases j with
   |zero=>exact c
   |succ j=>exact Fq name ty l (i+1) (by push_cast;exact h) j (by simpa using hj)
section
variable {σ:Type}(tm:σ->Int)(st:σ->σ)(se:σ->UR->aj->Option σ)(E:List az)
def cz:Nat->σ->Nat->Bool->σ×Nat×Bool
 |0,s,k,b=>(s,k,b)
 |n+1,s,k,b=>
  if b=false/\k<E.length/\(nth E k).at_=tm s then
   match se s (nth E k).name (nth E k).v with
   |some s'=>cz n s' (k+1) false
   |none=>(s,k,true)
  else(s,k,b)
def da(t:Int):Nat->σ->Nat->Bool->σ×Nat×Bool
 |0,s,k,b=>(s,k,b)
 |n+1,s,k,b=>
  if tm (cz tm se E (E.length+1) s k b).1=t then cz tm se E (E.length+1) s k b
  else if tm (st (cz tm se E (E.length+1) s k b).1)=tm (cz tm se E (E.length+1) s k b).1 then(st (cz tm se E (E.length+1) s k b).1,(cz tm se E (E.length+1) s k b).2)
  else da t n (st (cz tm se E (E.length+1) s k b).1) (cz tm se E (E.length+1) s k b).2.1 (cz tm se E (E.length+1) s k b).2.2
def l5(t:Int)(r:σ×Nat×Bool):Int:=if r.2.1<E.length/\(nth E r.2.1).at_<=t then r.2.1+1 else 0
end
def dM(t:Int):Int:=min (max t 0) 200
section
variable {σ:Type}{tm:σ->Int}{st:σ->σ}{se:σ->UR->aj->Option σ}{E:List az}
structure lD(tm:σ->Int)(st:σ->σ)(se:σ->ByteArray->aj->Option σ)(E:List az)(I:σ->Prop):Prop where
 se:∀s k s',I s->k<E.length->se s (nth E k).name (nth E k).v=some s'->I s'/\tm s'=tm s
 st:∀s,I s->tm s<200->I (st s)/\(tm (st s)=tm s\/tm (st s)=tm s+1)
 tm:∀s,I s->0<=tm s
variable {I:σ->Prop}
theorem nw(h:lD tm st se E I):∀(n:Nat) (s:σ) (k:Nat) (b:Bool),I s->I (cz tm se E n s k b).1/\tm (cz tm se E n s k b).1=tm s/\k<=(cz tm se E n s k b).2.1/\(k<=E.length->(cz tm se E n s k b).2.1<=E.length)
 |0,s,k,b,hs=>⟨hs,rfl,Nat.le_refl _,fun h=>h⟩
 |n+1,s,k,b,hs=>by
  unfold cz;split
  ·rename_i hc;split
   ·rename_i s' Yl;obtain⟨a1,a2⟩:=h.se s k s' hs hc.2.1 Yl;obtain⟨b1,b2,b3,b4⟩:=nw h n s' (k+1) false a1;exact⟨b1,b2.trans a2,jB,fun _=>b4 jB⟩
   ·exact⟨hs,rfl,Nat.le_refl _,fun h=>h⟩
  ·exact⟨hs,rfl,Nat.le_refl _,fun h=>h⟩
theorem sP(h:lD tm st se E I){t:Int}(ht:t<=200):∀(n:Nat) (s:σ) (k:Nat) (b:Bool),I s->tm s<=t->k<=E.length->I (da tm st se E t n s k b).1/\(da tm st se E t n s k b).2.1<=E.length/\tm (da tm st se E t n s k b).1<=t/\k<=(da tm st se E t n s k b).2.1
 |0,s,k,b,hs,h1,hk=>⟨hs,hk,h1,Nat.le_refl _⟩
 |n+1,s,k,b,hs,h1,hk=>by
  obtain⟨a1,a2,a3,a4⟩:=nw h (E.length+1) s k b hs;unfold da;split
  ·exact⟨a1,a4 hk,jB,a3⟩
  rename_i VM;have I':tm (cz tm se E (E.length+1) s k b).1<200:=jB;obtain⟨c1,c2⟩:=h.st _ a1 I';split
  ·exact⟨c1,a4 hk,by show tm (st (cz tm se E (E.length+1) s k b).1)<=t;omega,a3⟩
  ·rename_i haR;obtain⟨d1,d2,d3,d4⟩:=sP h ht n _ (cz tm se E (E.length+1) s k b).2.1 (cz tm se E (E.length+1) s k b).2.2 c1 jB (a4 hk);exact⟨d1,d2,d3,jB⟩
theorem Ko{K:Nat}(hK:K<=E.length):∀(n m:Nat) (s:σ) (k:Nat) (b:Bool),k<=K->K-k<n->K-k<m->(cz tm se E n s k b).2.1<=K->(cz tm se (E.take K) m s k b).1=(cz tm se E n s k b).1/\(cz tm se (E.take K) m s k b).2.1=(cz tm se E n s k b).2.1/\((cz tm se E n s k b).2.1<K->(cz tm se (E.take K) m s k b).2.2=(cz tm se E n s k b).2.2)
 |0,_,s,k,b,_,h,_,_=>by omega
 |_,0,s,k,b,_,_,h,_=>jB
 |n+1,m+1,s,k,b,hk,hn,hm,U6=>by
  have hl:(E.take K).length=K:=by rw[List.length_take];omega
  unfold cz at U6 ⊢;rw[hl];by_cases hc:b=false/\k<E.length/\(nth E k).at_=tm s
  ·rw[if_pos hc]at U6 ⊢;by_cases ZW:k<K
   ·have e:nth (E.take K) k=nth E k:=zX ZW;rw[e,if_pos ⟨hc.1,ZW,hc.2.2⟩];cases hs:se s (nth E k).name (nth E k).v with
    |none=>exact⟨rfl,rfl,fun _=>rfl⟩
    |some s'=> rw[hs]at U6;exact Ko hK n m s' (k+1) false jB jB jB U6
   ·rw[if_neg (fun h=>ZW h.2.1)];cases hs:se s (nth E k).name (nth E k).v with
    |none=>exact⟨rfl,rfl,fun h=>(ZW h).elim⟩
    |some s'=>
     rw[hs]at U6;have U6:(cz tm se E n s' (k+1) false).2.1<=K:=U6;have:∀(n:Nat) (s:σ) (k:Nat) (b:Bool),k<=(cz tm se E n s k b).2.1:=fun n=>by
      induction n with
      |zero=>intro s k b;exact Nat.le_refl _
      |succ n ih=>
       intro s k b;unfold cz;split
       ·split
        ·rename_i s2 _;have:=ih s2 (k+1) false;omega
        ·exact Nat.le_refl _
       ·exact Nat.le_refl _
     have:=this n s' (k+1) false;omega
  ·rw[if_neg hc];rw[if_neg hc]at U6;rw[if_neg (fun h=>hc ⟨h.1,jB,by rw[<-h.2.2,zX h.2.1]⟩)];exact⟨rfl,rfl,fun _=>rfl⟩
def yh:∀(n:Nat) (s:σ) (k:Nat) (b:Bool) (t:Int),k<=(da tm st se E t n s k b).2.1:=fun n=>by
 have hs:∀(n:Nat) (s:σ) (k:Nat) (b:Bool),k<=(cz tm se E n s k b).2.1:=fun n=>by
  induction n with
  |zero=>intro s k b;exact Nat.le_refl _
  |succ n ih=>
   intro s k b;unfold cz;split
   ·split
    ·rename_i s2 _;have:=ih s2 (k+1) false;omega
    ·exact Nat.le_refl _
   ·exact Nat.le_refl _
 induction n with
 |zero=>intro s k b t;exact Nat.le_refl _
 |succ n ih=>
  intro s k b t;unfold da;have:=hs (E.length+1) s k b;split
  ·exact this
  split
  ·exact this
  ·have:=ih (st (cz tm se E (E.length+1) s k b).1) (cz tm se E (E.length+1) s k b).2.1 (cz tm se E (E.length+1) s k b).2.2 t;omega
theorem CU{K:Nat}(hK:K<=E.length){t:Int}:∀(n:Nat) (s:σ) (k:Nat) (b b':Bool),k<=K->(k<K->b'=b)->(da tm st se E t n s k b).2.1<=K->(da tm st se (E.take K) t n s k b').1=(da tm st se E t n s k b).1/\(da tm st se (E.take K) t n s k b').2.1=(da tm st se E t n s k b).2.1
 |0,s,k,b,b',_,_,_=>⟨rfl,rfl⟩
 |n+1,s,k,b,b',hk,hb,U6=>by
  have hl:(E.take K).length=K:=by rw[List.length_take];omega
  have hS:(cz tm se (E.take K) ((E.take K).length+1) s k b').1=(cz tm se E (E.length+1) s k b).1/\(cz tm se (E.take K) ((E.take K).length+1) s k b').2.1=(cz tm se E (E.length+1) s k b).2.1/\((cz tm se E (E.length+1) s k b).2.1<K->(cz tm se (E.take K) ((E.take K).length+1) s k b').2.2=(cz tm se E (E.length+1) s k b).2.2):=by
   have Yy:(cz tm se E (E.length+1) s k b).2.1<=K:=by
    unfold da at U6;split at U6
    ·exact U6
    split at U6
    ·exact U6
    ·exact Nat.le_trans (yh _ _ _ _ _) U6
   by_cases ZW:k<K
   ·rw[hb ZW,hl];exact Ko hK _ _ s k b hk jB jB Yy
   ·have ZW:k=K:=jB;subst ZW;have e1:cz tm se (E.take k) ((E.take k).length+1) s k b'=(s,k,b'):=by
     unfold cz;rw[if_neg (fun h=>by have:=h.2.1;omega)]
    have e2:(cz tm se E (E.length+1) s k b).1=s/\(cz tm se E (E.length+1) s k b).2.1=k:=by
     unfold cz at Yy ⊢;split
     ·rename_i hc;rw[if_pos hc]at Yy;cases hs:se s (nth E k).name (nth E k).v with
      |none=>exact⟨rfl,rfl⟩
      |some s'=>
       rw[hs]at Yy;have h3:∀(n:Nat) (s:σ) (k:Nat) (b:Bool),k<=(cz tm se E n s k b).2.1:=fun n=>by
        induction n with
        |zero=>intro s k b;exact Nat.le_refl _
        |succ n ih=>
         intro s k b;unfold cz;split
         ·split
          ·rename_i s2 _;have:=ih s2 (k+1) false;omega
          ·exact Nat.le_refl _
         ·exact Nat.le_refl _
       have:=h3 E.length s' (k+1) false;have Yy:(cz tm se E E.length s' (k+1) false).2.1<=k:=Yy;omega
     ·exact⟨rfl,rfl⟩
    rw[e1,e2.1,e2.2];exact⟨rfl,rfl,fun h=>jB⟩
  obtain⟨h1,h2,h3⟩:=hS;unfold da at U6 ⊢;rw[h1];split
  ·exact⟨h1,h2⟩
  ·rename_i VM;rw[if_neg VM]at U6;split
   ·exact⟨rfl,h2⟩
   ·rename_i haR;rw[if_neg haR]at U6;rw[h2];have hbz:(cz tm se E (E.length+1) s k b).2.1<=K:=Nat.le_trans (yh _ _ _ _ _) U6;exact CU hK n _ _ _ _ hbz h3 U6
end
end Go.Gd
namespace Go.Proofs.YtijdhbokcdpklaaGreatDoor
open Go Go.Gd Tryz Go.Gd.MV
section
variable {p:af}{C:aI}
def JF{m:MV}(h:MI p C m){k:Nat}(hk:k<m.calls.length):ma p (nth m.calls k)/\tO p C (nth m.calls k).fn.toNat (m.fU k):=by
 have h2:m.status≠2:=fun e=>by have:=h.xd e;omega
 obtain⟨h1,hf,_,hm⟩:=h.ah h2;unfold MV.fU;by_cases hl:(k:Int)=(m.calls.length:Int)-1
 ·have ek:k=m.calls.length-1:=jB;have et:nth m.calls k=m.ah:=by rw[ek];rfl
  rw[if_pos hl,et];exact⟨hf,hm⟩
 ·rw[if_neg hl];have:=h.low k jB;exact⟨this.1,this.2.mark⟩
def Ay{m:MV}(h:MI p C m){n:Nat}(hb:Bd n m)(hC:C.ins.length<=1000000):uJ C m:=
 ⟨h.dX,fun k hk=>by obtain⟨_,k0,n,a,e,hm⟩:=JF h hk;have:=hm.head.1;rw[e];omega,hb.slots,h.cells,hb.outs,hC⟩
structure wW(p:af)(s:mh):Prop where
 f0:0<=s.fn
 f1:s.fn<p.aa.aw.length
 sl:(s.slots.length:Int)=nth p.size s.fn.toNat
 rg:si s.slots
 n0:0<=s.node
 n1:s.node.toNat<p.aa.nodes.length
 st:fA (bX p.aa.nodes s.node)
 in_:jq p s.fn.toNat s.node
def Qd{m:MV}(h:MI p C m){k:Nat}(hk:k<m.calls.length):wW p (m.spot C k):=by
 obtain⟨hf,k0,n,a,e,hm⟩:=JF h hk;have hx:=hm.head.2;have en:(m.spot C k).node=a:=by show(nth C.ins (m.fU k).toNat).a=a;rw[e,Int.toNat_natCast,hx];rfl
 exact⟨hf.f0,hf.f1,hf.sl,hf.rg,by rw[en];exact hm.h0,by rw[en];exact hm.hl,by rw[en];exact hm.hk,by rw[en];exact hm.hi⟩
end
variable{F:UP->MV->MV}{inp:UP}
def LY{p:af}(hs:gi p)(hF:bH p (bA p) F)(hn:inp.length<=1000)(hi:∀x∈inp,bE x){m:MV}{N:NM}{e:UL}(hR:bL p (bA p) m N e)(h:MI p (bA p) m)(hb:Bd inp.length m)(ht:0<=m.time/\m.time<=100000)(X:UQ) :
  kY prog 228 [mP N,aM eI 1 inp] e X (.aQ []) (fun N' l=>bL p (bA p) (F inp m) N' l/\N'.k=N.k/\Bd inp.length (F inp m)):=by
 by_cases h2:m.halt
 ·rw[hF.still inp m h2];exact⟨N,e,⟨hR,rfl,hb⟩,Up.refl _ _,Sn hR inp h2⟩
 ·have hC:=rl hs;obtain⟨m1,hg,⟨P',h1,XL⟩,e1⟩:=hF.step inp hi m h h2;have U4:=hC.len;have hfs:=hs.ok.aa.aw;have U':=hs.ok.size;obtain⟨hl,_,_,k0,n,a,ek,hm⟩:=h.ah (fun e=>h2 (.inl e));have Vh:=hm.head.1;have WH:=hC.px;rw[e1];exact SX X hR hl hb hn jB jB WH h2 jB jB hg P' (fun e0=>by obtain⟨hl,_,_,k0,n,a,ek,hm⟩:=h1.ah jB;have Vh:=hm.head.1;exact⟨hl,jB,jB⟩) jB
instance (m:MV)(C:aI):Decidable (m.dF C):=inferInstanceAs (Decidable (m.status≠0\/(m.bh C).op=1))
def pu(p:af)(C:aI)(inp:UP):Nat->MV->MV
 |0,m=>m
 |n+1,m=>if m.dF C then m else pu p C inp n (m.one p C inp)
def JW{p:af}{C:aI}{n:Nat}{m a:MV}(h:eo p C inp n m a):a.dF C->∀k,(pu p C inp k m).dF C->pu p C inp k m=a:=by
 induction h with
 |refl m=>
  intro ha k _;cases k with
  |zero=>rfl
  |succ k=>unfold pu;rw[if_pos ha]
 |step h0 h1 hok h ih=>
  intro ha k hk;have hns:∀{m:MV},m.status=0->(m.bh C).op≠1->¬m.dF C:=fun a b c=>c.elim (fun c=>c a) b
  cases k with
  |zero=>exact(hns h0 h1 hk).elim
  |succ k=> unfold pu at hk ⊢;rw[if_neg (hns h0 h1)]at hk ⊢;exact ih ha k hk
def Nk{p:af}{C:aI}(hF:bH p C F)(hi:∀x∈inp,bE x){m:MV}(h:MI p C m)(hh:¬m.halt)(k:Nat)(hk:(pu p C inp k m.eH).dF C):F inp m=(pu p C inp k m.eH).fD:=by obtain⟨m1,⟨n,hg⟩,⟨P',_,_⟩,e⟩:=hF.step inp hi m h hh;rw[e,JW hg P' k hk]
end Go.Proofs.YtijdhbokcdpklaaGreatDoor
namespace Go.Proofs.YtijdhbokcdpklaaGreatDoor
open Go Go.Gd Tryz
def Ht(l:List az):Go.Gd.Good 5 (l.map bv):=fun c hc=>by obtain⟨y,_,rfl⟩:=List.mem_map.1 hc;exact⟨rfl,rfl⟩
def Um(l:List az)(x:az)(k:Nat)(hk:k<=l.length)(hl:l.length<=1000)(n:Nat)(hn:n=l.length):ab prog 107 [.rs 1 n 5 n,rI k,.sl true 5 [bv x] []] [(1,.aG 87 5 (l.map bv))] (fun r l'=>r=.rs 1 (n+1) 5 (n+1)/\l'=[(1,.aG 87 5 ((l.take k++x::l.drop k).map bv))]):=by
 have WQ:(l.map bv).length=n:=by rw[List.length_map,hn]
 by_cases hkn:k=n
 ·subst hkn;have e:l.take k++x::l.drop k=l++[x]:=by rw[hn,List.take_length,List.drop_length]
  rw[e,List.map_append];refine aO func107 ntmps107 ?_;refine S ?_
  (have W:=WQ;repeat' (first|refine aq fun K hK=>?_|refine ak ?_|(refine hK _ _ ?_;clear hK K)|(refine ao ?_ ?_<;>intro hc<;>try exact jz)|refine ap ?_|exact jI|(clear hK K)))
  (refine bY [.tmp 6] ?_ ?_<;>(try simp only[go_sem]))
 ·have XT:(l.take k++x::l.drop k).map bv=(l.map bv).take k++bv x::(l.map bv).drop k:=by rw[List.map_append,List.map_cons,List.map_take,List.map_drop]
  have YT:(l.drop k).map bv=(l.map bv).drop k:=List.map_drop;have hg:=Ht (l.drop k);have VD:Go.Gd.Good 5 [bv x]:=Ht [x];rw[YT]at hg;have hdl:((l.map bv).drop k).length=n-k:=by rw[List.length_drop,WQ]
  have hkI:¬(k:Int)=(n:Int):=jB;have ZX:∀j:Nat,1<=j->Nat.min 1 j=[bv x].length:=fun j h=>Nat.min_eq_left h
  have ZY:∀j i:Nat,(j=n-k/\n-k<=i)\/(i=n-k/\n-k<=j)->Nat.min j i=((l.map bv).drop k).length:=fun j i h=>by
   rw[hdl];rcases h with⟨h1,h2⟩|⟨h1,h2⟩
   ·rw[h1];exact Nat.min_eq_left h2
   ·rw[h1];exact Nat.min_eq_right h2
  refine ab.ya (i:=1) (css:=l.map bv) (X:=(l.take k++x::l.drop k).map bv) (l:=[(1,.aG 87 5 (l.map bv))]) 9 jB rfl WQ.symm (fun j r h1 h2=>?_) (by rw[List.length_map,List.length_append,List.length_cons,List.length_take,List.length_drop];omega) (JL _ _) (fun y hy=>by obtain⟨z,_,rfl⟩:=List.mem_map.1 hy;rfl) rfl ?_ fun c hc=>?_
  ·simp only[aC]at h1;split at h1
   ·rename_i e;exact(h2 e).elim
   ·cases h1
  ·have XN:(n:Int)+1>(n:Int):=jB;show ab _ _ _ [(1,.aG 87 5 (l.map bv))] (fun r l'=>r=.rs 9 (n+1) 5 (n+1)/\l'=[(1,.aG 87 5 (l.map bv)),(9,.aG 87 5 ((l.take k++x::l.drop k).map bv))]);rw[XT];have X8:=Sc (A:=l.map bv) (R:=List.replicate (n+1-k) Bt) (y:=bv x) (k:=k) jB (by rw[List.length_replicate,WQ]);have WM:((l.map bv).drop k).take (n-k)=(l.map bv).drop k:=List.take_of_length_le jB;have h9:n+1=((l.map bv).take k++List.replicate (n+1-k) Bt).length:=by rw[List.length_append,List.length_take,List.length_replicate,WQ];omega
   have h9':n+1=(dz ((l.map bv).take k++List.replicate (n+1-k) Bt) k [bv x]).length:=by rw[uQ _ jB,<-h9];simp only[List.length_cons,List.length_nil];omega
   generalize l.map bv=A at*;refine aO func107 ntmps107 ?_;refine S ?_
   (have W:=jA WQ (jA hkI (XN));repeat' (first|refine aq fun K hK=>?_|refine ak ?_|(with_reducible refine gR 11 ?_);refine dE 11 (ba 0 9) mixed ?_|(refine hK _ _ ?_;clear hK K)|(refine ao ?_ ?_<;>intro hc<;>try exact jz)|(refine Ry (zs:=sZ) (j:=9) (k:=n+1-k) (n:=n+1) jG ⟨.i64,jG⟩ jG jG rfl jC rfl WQ.symm jB jB (by simp only[go_sem,room];omega) jB rfl jB ?_;refine S ?_)|(refine zN (k:=1) (ys:=[bv x]) (zs:=sZ) rfl h9 jG jG jG rfl jC jB jB (G5 (c:=True) rfl trivial VD) VD (ZX _ jB) ?_;refine S ?_)|(refine zN (k:=n-k) (ys:=A.drop k) (zs:=sZ) rfl h9' jG jG jG rfl jC jB jB (fun w vx h1 h2=>by have:=Ep (n:=n-k) (css:=A) rfl WQ.symm jB jl w vx h1 h2;rwa [WM]at this) hg (ZY _ _ jB) ?_;refine S ?_)|refine ap ?_|exact jI|(clear hK K)))
   rw[X8]
   (refine bY [.tmp 6] ?_ ?_<;>(try simp only[go_sem]))
  ·have XN:¬(n:Int)+1>(c:Int):=jB;show ab _ _ _ [(1,.aG 87 5 (l.map bv++gk 5 (c-n)))] (fun r l'=>r=.rc 1 c 5 (n+1)/\l'=[(1,.aG 87 5 ((l.take k++x::l.drop k).map bv++gk 5 (c-(n+1))))]);rw[XT];have hSl:(gk 5 (c-n)).length=c-n:=Ap;have hS1:(gk 5 (c-n)).drop 1=gk 5 (c-(n+1)):=by unfold gk;rw[List.drop_replicate];congr 1
   have X8:=Mw (A:=l.map bv) (S:=gk 5 (c-n)) (y:=bv x) (k:=k) jB jB;rw[hS1]at X8;have h8:c=(l.map bv++gk 5 (c-n)).length:=by rw[List.length_append,WQ,hSl];omega
   have h9:c=(dz (l.map bv++gk 5 (c-n)) (k+1) ((l.map bv).drop k)).length:=by rw[uQ _ jB,<-h8,hdl];omega
   have WM:((l.map bv++gk 5 (c-n)).drop k).take (n-k)=(l.map bv).drop k:=by rw[List.drop_append_of_le_length jB,List.take_append_of_le_length jB,List.take_of_length_le jB]
   have Wa:n+1<=c:=jB;generalize gk 5 (c-(n+1))=Sq at*;generalize gk 5 (c-n)=Sp at*;generalize l.map bv=A at*;refine aO func107 ntmps107 ?_;refine S ?_
   (have W:=jA WQ (jA hkI (XN));repeat' (first|refine aq fun K hK=>?_|refine ak ?_|(with_reducible refine gR 15 ?_);refine dE 15 (ba 0 9) mixed ?_|(refine hK _ _ ?_;clear hK K)|(refine ao ?_ ?_<;>intro hc<;>try exact jz)|(refine LG ?_;refine Ni (t:=47) (fn:=Tryz.f123) (tR:=4) func123 jG jG jG jG jG jG rfl h8 jB jB (Nat.zero_lt_succ 0) ?_;refine S ?_)|(refine zN (k:=n+1-k) (ys:=A.drop k) (zs:=sZ) rfl h8 jG jG jG rfl jC jB jB (fun w vx h1 h2=>by have:=Ep (n:=n-k) (css:=A++Sp) rfl h8 jB jB w vx h1 h2;rwa [WM]at this) hg (ZY _ _ jB) ?_;refine S ?_)|(refine zN (k:=1) (ys:=[bv x]) (zs:=sZ) rfl h9 jG jG jG rfl jC jB jB (G5 (c:=True) rfl trivial VD) VD (ZX _ jB) ?_;refine S ?_)|refine ap ?_|exact jI|(clear hK K)))
   rw[X8]
   (refine bY [.tmp 6] ?_ ?_<;>(try simp only[go_sem]))
def Bz(l:List az)(hl:l.length<=1000)(i:Nat):ab prog 78 [aM bv 5 l] [] (fun r l'=>r=.rs i l.length 5 l.length/\l'=[(i,.aG 87 5 (l.map bv))]):=by
 refine aO func78 ntmps78 ?_
 (repeat' (first|refine aq fun K hK=>?_|refine ak ?_|(refine hK _ _ ?_;clear hK K)|(refine ao ?_ ?_<;>intro hc<;>try exact jz)|(with_reducible refine fun(b:Bool) hb=>?_)|refine vn i ?_|refine ap ?_|exact jI|(clear hK K)))
 ·have VQ:l=[]:=by simpa using hb hc
  subst VQ;exact xi i 87 5 jC [.tmp 2] rfl rfl trivial
 ·(refine bY [.tmp 2] ?_ ?_<;>(try simp only[go_sem]))
def OU(y x:az):ab prog 106 [.agg (bv y),.pt 6 0 0 0] [(6,.var 87 (bv x))] (fun r l=>r=rB (decide (x.at_<y.at_))/\l=[(6,.var 87 (bv x))]):=by
 refine aO func106 ntmps106 ?_;refine S ?_
 (repeat' (first|refine aq fun K hK=>?_|refine ak ?_|(refine hK _ _ ?_;clear hK K)|(refine ao ?_ ?_<;>intro hc<;>try exact jz)|refine bx 9 ?_|refine ap ?_|exact jI|(clear hK K)))
 (refine aW [.tmp 3] ?_;try simp only[go_sem])
def Oi(x:az)(L:List az)(hL:L.length<=1000)(n:Nat)(hn:n=L.length):ab prog 85 [.rs 1 n 5 n,.dW 106 [.pt 6 0 0 0]] [(1,.aG 87 5 (L.map bv)),(6,.var 87 (bv x))] (fun r l=>r=rI (tv x L)/\l=[(1,.aG 87 5 (L.map bv)),(6,.var 87 (bv x))]):=by
 suffices key:∀z,tv x L=z->ab prog 85 [.rs 1 n 5 n,.dW 106 [.pt 6 0 0 0]] [(1,.aG 87 5 (L.map bv)),(6,.var 87 (bv x))] (fun r l=>r=rI z/\l=[(1,.aG 87 5 (L.map bv)),(6,.var 87 (bv x))]) from key _ rfl
 intro z hz;have WQ:(L.map bv).length=n:=by rw[List.length_map,hn]
 refine aO func85 ntmps85 ?_;refine S ?_
 (repeat' (first|refine aq fun K hK=>?_|refine ak ?_|(refine hK _ _ ?_;clear hK K)|(refine ao ?_ ?_<;>intro hc<;>try exact jz)|refine ap ?_|exact jI|(clear hK K)))
 have Vb:=hK;clear hK;refine ee (S:=Nat) [(4,2),(8,11)] (fun k=>k<=n/\∀j,j<k->¬x.at_<(nth L j).at_) (fun k=>[(8,rI k)]) (fun _=>⟨[1,6],[(1,.aG 87 5 (L.map bv)),(6,.var 87 (bv x))]⟩) (fun k=>n-k) 0 ⟨Nat.zero_le _,fun j h=>jB⟩ (dZ rfl cr) ?_;rintro k ⟨hk,U8⟩ Kr U5;by_cases I':k<n
 ·have U7:=OU (nth L k) x;have Wy:k<L.length:=jB;by_cases c:x.at_<(nth L k).at_
  ·rw[decide_eq_true c]at U7;have hp:=II U8 Wy c;have:z=(k:Int):=by rw[<-hz];unfold tv;rw[hp,if_pos Wy]
   subst this;refine S ?_
   (have W:=jA I' (jA WQ (Wy));repeat' (first|refine aq fun K hK=>?_|refine ak ?_|(refine hK _ _ ?_;clear hK K)|(refine ao ?_ ?_<;>intro hc<;>try exact jz)|(refine cl U7 ?_)|refine ap ?_|exact jI|(clear hK K)))
   (refine aW [.tmp 4] ?_;try simp only[go_sem])
  ·rw[decide_eq_false c]at U7;refine S ?_
   (have W:=jA I' (jA WQ (Wy));repeat' (first|refine aq fun K hK=>?_|refine ak ?_|(refine hK _ _ ?_;clear hK K)|(refine ao ?_ ?_<;>intro hc<;>try exact jz)|(refine cl U7 ?_)|refine ap ?_|exact jI|(clear hK K)))
   exact U5 _ _ (dY (k+1) ⟨jB,fun j hj=>by
    by_cases e:j<k
    ·exact U8 j e
    ·rw[show j=k from jB];exact c⟩ (by show n-(k+1)<n-k;omega) rfl cr)
 ·have hp:=Jj (x:=x) (L:=L) fun j hj=>U8 j jB
  have:z=-1:=by rw[<-hz];unfold tv;rw[hp,if_neg (Nat.lt_irrefl _)]
  subst this;refine S ?_
  (have W:=jA I' WQ;repeat' (first|refine aq fun K hK=>?_|refine ak ?_|(refine hK _ _ ?_;clear hK K)|(refine ao ?_ ?_<;>intro hc<;>try exact jz)|refine Vb _ _ ?_|refine ap ?_|exact jI|(clear hK K)))
  (refine aW [.tmp 4] ?_;try simp only[go_sem])
def Gf(l all:List az)(h1:l.length<=500)(h2:all.length<=500):aB prog 77 [aM bv 5 l,aM bv 5 all] (aM bv 5 (ie l all)):=by
 have U4:=Bz l jB 1;refine bF func77 ntmps77 ?_
 (repeat' (first|refine aq fun K hK=>?_|refine ak ?_|(refine hK _ _ ?_;clear hK K)|(refine ao ?_ ?_<;>intro hc<;>try exact jz)|refine cm (U4) ?_|refine ap ?_|exact jI|(clear hK K)))
 have Vb:=hK;clear hK;refine ee (S:=Nat) [(0,1),(6,2),(12,17)] (fun k=>k<=all.length) (fun k=>[(0,.rs 1 (l.length+k) 5 (l.length+k)),(12,rI k)]) (fun k=>⟨[],[(1,.aG 87 5 ((ie l (all.take k)).map bv))]⟩) (fun k=>all.length-k) 0 (Nat.zero_le _) (dZ rfl cr) ?_;rintro k hk Kr U5;have O':=zO (all.take k) l;rw[List.length_take,Nat.min_eq_left hk]at O';by_cases I':k<all.length
 ·have hsn:ie l (all.take (k+1))=gX (nth all k) (ie l (all.take k)):=by rw[tT I',QI]
  have hex:(ie l (all.take (k+1))).map bv=((ie l (all.take k)).take (lP (nth all k) (ie l (all.take k)))++nth all k::(ie l (all.take k)).drop (lP (nth all k) (ie l (all.take k)))).map bv:=by rw[hsn,Cl]
  generalize hx:nth all k=x at*;generalize hM:ie l (all.take k)=M at*;have XA:=Oi x M jB (l.length+k) O'.symm;have XR:=Ch x M;have hpi:=Um M x (lP x M) XR jB (l.length+k) O'.symm;have Y3:((l.length+k:Nat):Int)=(l.length:Int)+k:=by push_cast;rfl
  by_cases hq:lP x M<l.length+k
  ·have hi:tv x M=(lP x M:Int):=by unfold tv;rw[jP]
   rw[hi]at XA;generalize lP x M=q at*;have hq0:¬(q:Int)<0:=jB;refine S ?_
   (have W:=jA I' (jA hq0 (hx));repeat' (first|refine aq fun K hK=>?_|refine ak ?_|(refine hK _ _ ?_;clear hK K)|(refine ao ?_ ?_<;>intro hc<;>try exact jz)|refine al 6 ?_|refine cm (XA) ?_|refine cm (hpi) ?_|refine ap ?_|exact jI|(clear hK K)))
   refine U5 _ _ (po [6] (k+1) jB (by show all.length-(k+1)<all.length-k;omega) rfl Sd ?_ jo);simp only[hex,List.map_append,List.map_cons];rfl
  ·have hi:tv x M=-1:=by unfold tv;rw[jN]
   rw[hi]at XA;have Xz:lP x M=l.length+k:=jB;rw[Xz]at hpi hex;refine S ?_
   (have W:=jA I' hx;repeat' (first|refine aq fun K hK=>?_|refine ak ?_|(refine hK _ _ ?_;clear hK K)|(refine ao ?_ ?_<;>intro hc<;>try exact jz)|refine al 6 ?_|refine cm (XA) ?_|refine cm (hpi) ?_|refine ap ?_|exact jI|(clear hK K)))
   refine U5 _ _ (po [6] (k+1) jB (by show all.length-(k+1)<all.length-k;omega) rfl Sd ?_ jo);simp only[hex,List.map_append,List.map_cons];rfl
 ·have Zi:k=all.length:=jB;subst Zi;rw[List.take_length]at O' ⊢;refine S ?_
  (have W:=I';repeat' (first|refine aq fun K hK=>?_|refine ak ?_|(refine hK _ _ ?_;clear hK K)|(refine ao ?_ ?_<;>intro hc<;>try exact jz)|refine Vb _ _ ?_|refine ap ?_|exact jI|(clear hK K)))
  refine fH [.tmp 4] ?_;exact cY.row (ie l all) rfl rfl (by simp[O'])
def Rx(a b:List az)(h1:a.length<=500)(h2:b.length<=500):aB prog 62 [aM bv 5 a,aM bv 5 b] (aM bv 5 (ie a b)):=by
 have h:=Gf a b h1 h2;refine bF func62 ntmps62 ?_
 (repeat' (first|refine aq fun K hK=>?_|refine ak ?_|(refine hK _ _ ?_;clear hK K)|(refine ao ?_ ?_<;>intro hc<;>try exact jz)|refine cp (h) ?_|refine ap ?_|exact jI|(clear hK K)))
 (refine aW [.tmp 4] ?_;try simp only[go_sem])
def Dh(x:az):aB prog 60 [.agg (bv x)] (rB (jS x)):=by
 have h:=vw x.v;suffices key:∀b,jS x=b->aB prog 60 [.agg (bv x)] (rB b) from key _ rfl
 intro b hb;unfold jS at hb;generalize mg x.v=m at*;have hq:(¬1<=(x.name.size:Int)/\True/\True/\True/\True)\/(1<=(x.name.size:Int)/\¬(x.name.size:Int)<=8/\True/\True/\True)\/(1<=(x.name.size:Int)/\(x.name.size:Int)<=8/\¬0<=x.at_/\True/\True)\/(1<=(x.name.size:Int)/\(x.name.size:Int)<=8/\0<=x.at_/\¬x.at_<=200/\True)\/(1<=(x.name.size:Int)/\(x.name.size:Int)<=8/\0<=x.at_/\x.at_<=200/\x.v.ty=4)\/(1<=(x.name.size:Int)/\(x.name.size:Int)<=8/\0<=x.at_/\x.at_<=200/\¬x.v.ty=4):=by
  by_cases c1:1<=(x.name.size:Int)
  rotate_left
  ·exact .inl ⟨c1,trivial,trivial,trivial,trivial⟩
  by_cases c2:(x.name.size:Int)<=8
  rotate_left
  ·exact .inr (.inl ⟨c1,c2,trivial,trivial,trivial⟩)
  by_cases c3:0<=x.at_
  rotate_left
  ·exact .inr (.inr (.inl ⟨c1,c2,c3,trivial,trivial⟩))
  by_cases c4:x.at_<=200
  rotate_left
  ·exact .inr (.inr (.inr (.inl ⟨c1,c2,c3,c4,trivial⟩)))
  by_cases c5:x.v.ty=4
  ·exact .inr (.inr (.inr (.inr (.inl ⟨c1,c2,c3,c4,c5⟩))))
  ·exact .inr (.inr (.inr (.inr (.inr ⟨c1,c2,c3,c4,c5⟩))))
 have n1:(1<=x.name.size)<->1<=(x.name.size:Int):=jB;have n2:(x.name.size<=8)<->(x.name.size:Int)<=8:=jB;rcases hq with⟨c1,c2,c3,c4,c5⟩|⟨c1,c2,c3,c4,c5⟩|⟨c1,c2,c3,c4,c5⟩|⟨c1,c2,c3,c4,c5⟩|⟨c1,c2,c3,c4,c5⟩|⟨c1,c2,c3,c4,c5⟩
 all_goals
  refine bF func60 ntmps60 ?_
  (have W:=jA c1 (jA c2 (jA c3 (jA c4 (c5))));repeat' (first|refine aq fun K hK=>?_|refine ak ?_|(refine hK _ _ ?_;clear hK K)|(refine ao ?_ ?_<;>intro hc<;>try exact jz)|refine bx 3 ?_|(first|refine cg (h) ?_|refine nr (h) ?_)|refine cq (h) ?_|refine⟨rB true,?_⟩|refine ap ?_|exact jI|(clear hK K)))
  (refine aW [.tmp 2] ?_;try simp only[go_sem])
  refine IK ?_;rw[<-hb];simp[n1,n2,c1,c2,c3,c4,c5]
def DI:az:=⟨0,⟨#[]⟩,⟨0,0,⟨#[]⟩⟩⟩
def GD(y:az)(t:Int):ab prog 81 [.agg (bv y),.pt 6 0 0 0] [(6,.var 3 [rI t])] (fun r l=>r=rB (decide (t<y.at_))/\l=[(6,.var 3 [rI t])]):=by
 refine aO func81 ntmps81 ?_;refine S ?_
 (repeat' (first|refine aq fun K hK=>?_|refine ak ?_|(refine hK _ _ ?_;clear hK K)|(refine ao ?_ ?_<;>intro hc<;>try exact jz)|refine bx 9 ?_|refine ap ?_|exact jI|(clear hK K)))
 (refine aW [.tmp 3] ?_;try simp only[go_sem])
def NP(t:Int)(L:List az)(hL:L.length<=1000)(n:Nat)(hn:n=L.length):ab prog 85 [.rs 1 n 5 n,.dW 81 [.pt 6 0 0 0]] [(1,.aG 87 5 (L.map bv)),(6,.var 3 [rI t])] (fun r l=>r=rI (tK t L)/\l=[(1,.aG 87 5 (L.map bv)),(6,.var 3 [rI t])]):=by
 suffices key:∀z,tK t L=z->ab prog 85 [.rs 1 n 5 n,.dW 81 [.pt 6 0 0 0]] [(1,.aG 87 5 (L.map bv)),(6,.var 3 [rI t])] (fun r l=>r=rI z/\l=[(1,.aG 87 5 (L.map bv)),(6,.var 3 [rI t])]) from key _ rfl
 intro z hz;have WQ:(L.map bv).length=n:=by rw[List.length_map,hn]
 refine aO func85 ntmps85 ?_;refine S ?_
 (repeat' (first|refine aq fun K hK=>?_|refine ak ?_|(refine hK _ _ ?_;clear hK K)|(refine ao ?_ ?_<;>intro hc<;>try exact jz)|refine ap ?_|exact jI|(clear hK K)))
 have Vb:=hK;clear hK;refine ee (S:=Nat) [(4,2),(8,11)] (fun k=>k<=n/\∀j,j<k->¬t<(nth L j).at_) (fun k=>[(8,rI k)]) (fun _=>⟨[1,6],[(1,.aG 87 5 (L.map bv)),(6,.var 3 [rI t])]⟩) (fun k=>n-k) 0 ⟨Nat.zero_le _,fun j h=>jB⟩ (dZ rfl cr) ?_;rintro k ⟨hk,U8⟩ Kr U5;by_cases I':k<n
 ·have U7:=GD (nth L k) t;have Wy:k<L.length:=jB;by_cases c:t<(nth L k).at_
  ·rw[decide_eq_true c]at U7;have hp:=E8 U8 Wy c;have:z=(k:Int):=by rw[<-hz];unfold tK;rw[hp,if_pos Wy]
   subst this;refine S ?_
   (have W:=jA I' (jA WQ (Wy));repeat' (first|refine aq fun K hK=>?_|refine ak ?_|(refine hK _ _ ?_;clear hK K)|(refine ao ?_ ?_<;>intro hc<;>try exact jz)|(refine cl U7 ?_)|refine ap ?_|exact jI|(clear hK K)))
   (refine aW [.tmp 4] ?_;try simp only[go_sem])
  ·rw[decide_eq_false c]at U7;refine S ?_
   (have W:=jA I' (jA WQ (Wy));repeat' (first|refine aq fun K hK=>?_|refine ak ?_|(refine hK _ _ ?_;clear hK K)|(refine ao ?_ ?_<;>intro hc<;>try exact jz)|(refine cl U7 ?_)|refine ap ?_|exact jI|(clear hK K)))
   exact U5 _ _ (dY (k+1) ⟨jB,fun j hj=>by
    by_cases e:j<k
    ·exact U8 j e
    ·rw[show j=k from jB];exact c⟩ (by show n-(k+1)<n-k;omega) rfl cr)
 ·have hp:=F5 (t:=t) (L:=L) fun j hj=>U8 j jB
  have:z=-1:=by rw[<-hz];unfold tK;rw[hp,if_neg (Nat.lt_irrefl _)]
  subst this;refine S ?_
  (have W:=jA I' WQ;repeat' (first|refine aq fun K hK=>?_|refine ak ?_|(refine hK _ _ ?_;clear hK K)|(refine ao ?_ ?_<;>intro hc<;>try exact jz)|refine Vb _ _ ?_|refine ap ?_|exact jI|(clear hK K)))
  (refine aW [.tmp 4] ?_;try simp only[go_sem])
def TW(t:Int)(L:List az)(hL:L.length<=1000)(n:Nat)(hn:n=L.length):ab prog 80 [.rs 1 n 5 n,.dW 81 [.pt 6 0 0 0]] [(1,.aG 87 5 (L.map bv)),(6,.var 3 [rI t])] (fun r l=>r=.rs 1 n 5 (cv L t).length/\l=[(1,.aG 87 5 ((cv L t++List.replicate (n-(cv L t).length) DI).map bv)),(6,.var 3 [rI t])]):=by
 have XA:=NP t L hL n hn;have hll:=JS t L;have WQ:(L.map bv).length=n:=by rw[List.length_map,hn]
 by_cases hq:jm t L<L.length
 rotate_left
 ·have hi:tK t L=-1:=by unfold tK;rw[if_neg hq]
  have he:cv L t=L:=by have:=Dg t L;rwa [show jm t L=L.length from jB,List.take_length]at this
  rw[hi]at XA;rw[he,<-hn,Nat.sub_self];simp only[List.replicate_zero,List.append_nil];refine aO func80 ntmps80 ?_;refine S ?_
  (repeat' (first|refine aq fun K hK=>?_|refine ak ?_|(refine hK _ _ ?_;clear hK K)|(refine ao ?_ ?_<;>intro hc<;>try exact jz)|refine cm (XA) ?_|refine ap ?_|exact jI|(clear hK K)))
  (refine aW [.tmp 4] ?_;try simp only[go_sem])
 ·have hi:tK t L=(jm t L:Int):=by unfold tK;rw[if_pos hq]
  have hE0:=Dg t L;have VF:=HO hq;rw[hi]at XA;have Xz:¬(jm t L:Int)=-1:=jB;have hE1:cv (L.take (jm t L+1)) t=L.take (jm t L):=by rw[tT hq,Ei,jN,hE0]
  have Z4:L.take (jm t L)++[nth L (jm t L)]++L.drop (jm t L+1)=L:=by rw[<-tT hq,List.take_append_drop]
  generalize jm t L=q at*;have X1:(L.take q).length=q:=by rw[List.length_take];omega
  refine aO func80 ntmps80 ?_;refine S ?_
  (have W:=Xz;repeat' (first|refine aq fun K hK=>?_|refine ak ?_|(refine hK _ _ ?_;clear hK K)|(refine ao ?_ ?_<;>intro hc<;>try exact jz)|refine cm (XA) ?_|refine ap ?_|exact jI|(clear hK K)))
  have Vb:=hK;clear hK;refine ee (S:=Nat×List az) [(5,3),(16,20)] (fun s=>s.1<=n/\(cv (L.take s.1) t).length+s.2.length=s.1/\0<s.2.length) (fun s=>[(5,rI (cv (L.take s.1) t).length),(6,rI s.1)]) (fun s=>⟨[1,6],[(1,.aG 87 5 ((cv (L.take s.1) t++s.2++L.drop s.1).map bv)),(6,.var 3 [rI t])]⟩) (fun s=>n-s.1) (q+1,[nth L q]) ⟨by show q+1<=n;omega,by show(cv (L.take (q+1)) t).length+1=q+1;rw[hE1,X1],Nat.zero_lt_succ 0⟩ ?_ ?_
  ·show dT _ _ (mO [(5,rI (cv (L.take (q+1)) t).length),(6,rI (q+1:Nat))] _) ⟨[1,6],[(1,.aG 87 5 ((cv (L.take (q+1)) t++[nth L q]++L.drop (q+1)).map bv)),(6,.var 3 [rI t])]⟩;rw[hE1,Z4,X1];exact dZ rfl cr
  rintro⟨j,J⟩ ⟨hj,O',hJ⟩ Kr U5;have hj:j<=n:=hj;have O':(cv (L.take j) t).length+J.length=j:=O';have hJ:0<J.length:=hJ;by_cases I':j<n
  ·have Zo:j<L.length:=jB;have WM:=tT Zo;have Zk:cv (L.take (j+1)) t=if(nth L j).at_<=t then cv (L.take j) t++[nth L j]else cv (L.take j) t:=by rw[WM,Ei]
   have YT:L.drop j=nth L j::L.drop (j+1):=by rw[fM Zo];exact List.drop_eq_getElem_cons Zo
   have U7:=GD (nth L j) t;generalize hx:nth L j=x at*;generalize hE:cv (L.take j) t=E at*;have ZP:nth (E++J++L.drop j) j=x:=by rw[YT];unfold nth;rw[List.getD_eq_getElem?_getD,List.getElem?_append_right (by rw[List.length_append];omega),List.length_append,O',Nat.sub_self];rfl
   have WT:(E++J++L.drop j).length=n:=by rw[List.length_append,List.length_append,List.length_drop];omega
   generalize hR:E++J++L.drop j=R at*;by_cases c:t<x.at_
   ·rw[decide_eq_true c]at U7;rw[jN]at Zk;refine S ?_
    (have W:=jA I' (jA ZP (WT));repeat' (first|refine aq fun K hK=>?_|refine ak ?_|(refine hK _ _ ?_;clear hK K)|(refine ao ?_ ?_<;>intro hc<;>try exact jz)|refine al 7 ?_|(refine cl U7 ?_)|refine ap ?_|exact jI|(clear hK K)))
    have VO:cv (L.take (j+1)) t++(J++[x])++L.drop (j+1)=R:=by rw[Zk,<-hR,YT];simp
    refine U5 _ _ (po [7] (j+1,J++[x]) ⟨by show j+1<=n;omega,by show(cv (L.take (j+1)) t).length+(J++[x]).length=j+1;rw[Zk,List.length_append];simp only[List.length_cons,List.length_nil];omega,by show 0<(J++[x]).length;rw[List.length_append];omega⟩ (by show n-(j+1)<n-j;omega) rfl Sd ?_ ?_)
    ·simp only[VO];rfl
    ·simp only[Zk];exact jo
   ·rw[decide_eq_false c]at U7;rw[jP]at Zk;refine S ?_
    (have W:=jA I' (jA ZP (WT));repeat' (first|refine aq fun K hK=>?_|refine ak ?_|(refine hK _ _ ?_;clear hK K)|(refine ao ?_ ?_<;>intro hc<;>try exact jz)|refine al 7 ?_|(refine cl U7 ?_)|refine ap ?_|exact jI|(clear hK K)))
    have U2:(R.map bv).set E.length (bv x++List.drop 5 (bv (nth R E.length)))=(R.set E.length x).map bv:=(List.map_set (f:=bv)).symm;have VO:cv (L.take (j+1)) t++(J.drop 1++[x])++L.drop (j+1)=R.set E.length x:=by
     rw[Zk,<-hR,YT];obtain⟨y,J',rfl⟩:∃y J',J=y::J':=by
      cases J with
      |nil=>simp at hJ
      |cons y J'=>exact⟨y,J',rfl⟩
     simp
    rw[U2];refine U5 _ _ (po [7] (j+1,J.drop 1++[x]) ⟨by show j+1<=n;omega,by show(cv (L.take (j+1)) t).length+(J.drop 1++[x]).length=j+1;rw[Zk,List.length_append,List.length_append,List.length_drop];simp only[List.length_cons,List.length_nil];omega,by show 0<(J.drop 1++[x]).length;rw[List.length_append];simp only[List.length_cons];omega⟩ (by show n-(j+1)<n-j;omega) rfl Sd ?_ ?_)
    ·simp only[VO];rfl
    ·simp only[Zk,List.length_append,List.length_cons,List.length_nil];exact jo
  ·have hje:j=n:=jB;subst hje;have hz:((cv (L.take j) t++J++L.drop j).map bv).length=j:=by rw[List.length_map,List.length_append,List.length_append,List.length_drop];omega
   rw[hn,List.take_length,<-hn]at O';rw[hn,List.take_length,List.drop_length,List.append_nil,<-hn]at hz ⊢;have X8:dz ((cv L t++J).map bv) (cv L t).length (List.replicate (j-(cv L t).length) (sZ.map AV.raw))=(cv L t++List.replicate (j-(cv L t).length) DI).map bv:=by unfold dz;rw[List.map_append,List.map_append,List.map_replicate];have h1:=List.take_left (l₁:=(cv L t).map bv) (l₂:=J.map bv);rw[List.length_map]at h1;rw[h1,List.length_replicate,List.drop_of_length_le (by rw[List.length_append,List.length_map,List.length_map];omega),List.append_nil];rfl
   generalize cv L t=E at*;simp only[List.map_append]at hz X8;refine S ?_
   (have W:=jA I' hz;repeat' (first|refine aq fun K hK=>?_|refine ak ?_|(refine hK _ _ ?_;clear hK K)|(refine ao ?_ ?_<;>intro hc<;>try exact jz)|(refine FK (zs:=sZ) rfl hz.symm jG jG jG rfl jC rfl jB ?_;refine S ?_)|refine Vb _ _ ?_|refine ap ?_|exact jI|(clear hK K)))
   rw[X8]
   (refine aW [.tmp 4] ?_;try simp only[go_sem])
def Jx(l:List az)(t:Int)(hl:l.length<=1000):aB prog 53 [aM bv 5 l,rI t] (aM bv 5 (cv l t)):=by
 have U4:=Bz l hl 1;have hd:=TW t l hl _ rfl;have WV:=AQ l t;refine bF func53 ntmps53 ?_
 (repeat' (first|refine aq fun K hK=>?_|refine ak ?_|(refine hK _ _ ?_;clear hK K)|(refine ao ?_ ?_<;>intro hc<;>try exact jz)|refine bx 6 ?_|refine cm (U4) ?_|refine cm (hd) ?_|refine ap ?_|exact jI|(clear hK K)))
 refine fH [.tmp 4] ?_;exact cY.pM (cv l t) (List.replicate (l.length-(cv l t).length) DI) rfl (by rw[List.map_append];rfl) (by rw[List.length_replicate];omega) rfl
end Go.Proofs.YtijdhbokcdpklaaGreatDoor
/- Lemmas. No conditions. -/
import Derived.Test.YtjpcgmjaipfgdaaGreatDoorViS
import Derived.Lib.ItoaLen
import Derived.Test.YtjpcgmjaipfgdaaGreatDoorRpA
set_option linter.all false
set_option maxHeartbeats 4000000
set_option maxRecDepth 10000
namespace Go.Gd
open Go
@[go_sem] def qap:(∀(a:UInt8),(#[a]:Array UInt8).size=1)/\(∀(a b c:UInt8),(#[a,b,c]:Array UInt8).size=3)/\(∀(a b c d:UInt8),(#[a,b,c,d]:Array UInt8).size=4)/\(∀(a b c d e f:UInt8),(#[a,b,c,d,e,f]:Array UInt8).size=6):=by and_intros<;>(intros;rfl)
variable{n:Int}
def nJ(h:bG n):(cA n).size<=21:=by have:=Lib.itoa_length_le n h.1 h.2;show(Lib.itoa n).toArray.size<=21;simpa using this
def BF(x:Int)(l:UU)(b:Bool)(t:UX):rf (x::l) b t=rf l true ((if b=true then t++(⟨#[44]⟩:UX)else t)++cA x):=rfl
attribute [go_sem] List.take_zero
theorem Gc:∀(l:UU) (b:Bool) (t:UX),(∀x∈l,bG x)->(rf l b t).size<=t.size+22*l.length
 |[],b,t,_=>by show t.size<=_;omega
 |y::l,b,t,h=>by
  rw[BF];have h1:=Gc l true ((if b=true then t++(⟨#[44]⟩:UX)else t)++cA y) fun x hx=>h x (by simp[hx])
  have h2:=nJ (h y jE);have h3:(if b=true then t++(⟨#[44]⟩:UX)else t).size<=t.size+1:=by
   split
   ·rw[ByteArray.size_append];exact Nat.le_refl _
   ·omega
  rw[ByteArray.size_append]at h1;simp only[List.length_cons];omega
def Hs{v:aj}(h:bG v.n)(hs:v.s.size<=40):(lm v).size<=40:=by
 have:=nJ h;unfold lm
 (repeat' split)<;>first|omega|(show(_:Nat)<=40;decide)
def aF.below{w:NW}{H:Hp}(r:aF w H){W:World}(hb:RowKit.Below w.heap.size w.toWorld W):aF (w.to W) H/\Ext w H (w.to W) H:=by have ex:Ext w H (w.to W) H:={ size:=hb.size,free:=fun b VM hO=>⟨hb.block b VM,hO⟩,names:=fun _ _ _ _ h=>h,os:=hb.os,tape:=hb.tape,output:=hb.output,rest:=fun b VM hO Vd=>⟨hb.block b VM,hO,Vd⟩,base:=rfl };refine⟨{ rows:=fun i row hi=>?_,dt:=r.dt,inj:=r.inj,own:=r.own,bY:=r.bY.aU ex.toKeep,fin:=fun b VM=>Nat.lt_of_lt_of_le (r.fin b VM) hb.size },ex⟩;obtain⟨h1,z,h2,h3⟩:=r.rows i row hi;exact⟨h1,z,h2,h3.ext ex fun b t s e=>by subst e;exact hb.block b (r.lt h2)⟩
def p6(l:List UX)(sep:UX):UX:=⟨(Lib.join (l.map (·.data.toList)) sep.data.toList).toArray⟩
def uL{a b:UX}(h:a.data.toList=b.data.toList):a=b:=by cases a;cases b;simp only[ByteArray.mk.injEq];exact Array.ext' h
def vN(a b:UX):(a++b).data.toList=a.data.toList++b.data.toList:=jE
def Fb(x:UX)(l:List UX)(sep:UX):(p6 (x::l) sep).data.toList=x.data.toList++Lib.joinTail sep.data.toList (l.map (·.data.toList)):=by show Lib.join (List.map _ (x::l)) _=_;rw[List.map_cons,Lib.join_cons]
theorem I2:∀(l:UU) (T:UX),(rf l true T).data.toList=T.data.toList++Lib.joinTail [44] ((l.map cA).map (·.data.toList))
 |[],T=>by simp[rf,Lib.joinTail]
 |x::l,T=>by rw[BF,I2 l,if_pos rfl,vN,vN];simp[Lib.joinTail,List.append_assoc]
def Eo(l:UU)(T:UX):rf l false T=T++p6 (l.map cA) (⟨#[44]⟩:UX):=by
 apply uL;cases l with
 |nil=>rw[vN];simp[rf,p6,Lib.join_nil]
 |cons x l=> rw[BF,I2,if_neg jC,vN,vN,List.map_cons,Fb,List.append_assoc]
theorem Hi(sep:List UInt8)(M:Nat):∀(l:List UX),(∀x∈l,x.size<=M)->(Lib.joinTail sep (l.map (·.data.toList))).length<=l.length*(sep.length+M)
 |[],_=>by simp[Lib.joinTail]
 |x::l,h=>by
  have h1:=Hi sep M l fun y hy=>h y (by simp[hy])
  have h2:x.data.toList.length<=M:=by have:=h x jE;simpa using this
  simp only[Lib.joinTail,List.map_cons,List.flatten_cons,List.length_append,List.length_cons]at h1 ⊢;have:(l.length+1)*(sep.length+M)=l.length*(sep.length+M)+(sep.length+M):=by rw[Nat.add_mul,Nat.one_mul]
  omega
def HN(l:List UX)(sep:UX)(M:Nat)(h:∀x∈l,x.size<=M):(p6 l sep).size<=l.length*(sep.size+M):=by
 cases l with
 |nil=>show(Lib.join _ _).toArray.size<=_;simp[Lib.join_nil]
 |cons x l=>
  have e:(p6 (x::l) sep).size=(p6 (x::l) sep).data.toList.length:=jE;rw[e,Fb];have h1:=Hi sep.data.toList M l fun y hy=>h y (by simp[hy])
  have h2:x.data.toList.length<=M:=by have:=h x jE;simpa using this
  have h3:sep.data.toList.length=sep.size:=jE;simp only[List.length_append,List.length_cons];have:(l.length+1)*(sep.size+M)=l.length*(sep.size+M)+(sep.size+M):=by rw[Nat.add_mul,Nat.one_mul]
  rw[h3]at h1;omega
abbrev rT(s:UX):AV:=.raw (.string s)
def mm:List aG->UX->UX
 |[],_=>(⟨#[45]⟩:UX)
 |x::l,n=>if x.name=n then x.text else mm l n
def na:List aG->UX->Option UX
 |[],_=>none
 |x::l,n=>if x.name=n then some x.text else na l n
theorem xi:∀(l:List aG) (n:UX),mm l n=(na l n).getD (⟨#[45]⟩:UX)
 |[],n=>rfl
 |x::l,n=>by
  unfold mm na;split
  ·rfl
  ·exact xi l n
theorem zN(x:aG)(n:UX):∀(l:List aG),na (l++[x]) n=(na l n).or (if x.name=n then some x.text else none)
 |[]=>by show(if x.name=n then some x.text else none)=_;split<;>rfl
 |y::l=>by
  show(if y.name=n then some y.text else na (l++[x]) n)=((if y.name=n then some y.text else na l n):Option UX).or _;split
  ·rfl
  ·exact zN x n l
def xA(a:List UX×List UX)(x:aG):List UX×List UX:=if(iU x.name a.1 (a.2.map rT)).isSome=true then a else(a.1++[x.name],a.2++[x.text])
def fc(l:List aG):List UX×List UX:=l.foldl xA ([],[])
def B8(l:List aG)(x:aG):fc (l++[x])=xA (fc l) x:=by unfold fc;rw[List.foldl_append];rfl
theorem F5{n k:UX}{v:AV}:∀{ks:List UX} {vs:US},ks.length=vs.length->iU n (ks++[k]) (vs++[v])=(iU n ks vs).or (if n=k then some v else none)
 |[],[],_=>by show(if n=k then some v else iU n [] [])=_;split<;>rfl
 |[],_::_,h=>by simp at h
 |_::_,[],h=>by simp at h
 |k'::ks,v'::vs,h=>by
  show(if n=k' then some v' else iU n (ks++[k]) (vs++[v]))=((if n=k' then some v' else iU n ks vs):Option AV).or _;split
  ·rfl
  ·exact F5 (by simpa using h)
theorem Dj{n:UX}{x:AV}:∀{ks:List UX} {vs:US},ks.length=vs.length->iU n ks vs=none->mj n ks=ks++[n]/\lH n x ks vs=vs++[x]
 |[],[],_,_=>⟨rfl,rfl⟩
 |[],_::_,h,_=>by simp at h
 |_::_,[],h,_=>by simp at h
 |k::ks,v::vs,h,hn=>by
  have hn:(if n=k then some v else iU n ks vs)=none:=hn;by_cases hk:n=k
  ·rw[if_pos hk]at hn;cases hn
  ·rw[if_neg hk]at hn;obtain⟨a,b⟩:=Dj (n:=n) (x:=x) (ks:=ks) (vs:=vs) (by simpa using h) hn;unfold mj lH;rw[if_neg hk,if_neg hk,a,b];exact⟨rfl,rfl⟩
def AG(l:List aG):(fc l).1.length=(fc l).2.length/\∀n,iU n (fc l).1 ((fc l).2.map rT)=(na l n).map rT:=by
 suffices h:∀k,k<=l.length->(fc (l.take k)).1.length=(fc (l.take k)).2.length/\∀n,iU n (fc (l.take k)).1 ((fc (l.take k)).2.map rT)=(na (l.take k) n).map rT by have:=h l.length jl;rwa [List.take_length]at this
 intro k;induction k with
 |zero=>intro _;exact⟨rfl,fun n=>rfl⟩
 |succ k ih=>
  intro hk;obtain⟨h1,h2⟩:=ih jB;rw[nA jB,B8];generalize nth l k=x at*;have J':(fc (l.take k)).1.length=((fc (l.take k)).2.map rT).length:=by rw[List.length_map];exact h1
  have Xz:=h2 x.name;unfold xA;by_cases hm:(iU x.name (fc (l.take k)).1 ((fc (l.take k)).2.map rT)).isSome=true
  ·rw[if_pos hm];refine⟨h1,fun n=>?_⟩;rw[h2,zN];by_cases e:x.name=n
   ·subst e;rw[Xz]at hm;cases e2:na (l.take k) x.name with
    |none=>rw[e2]at hm;exact absurd hm jE
    |some t=>rfl
   ·rw[if_neg e];simp
  ·rw[if_neg hm];refine⟨by simp[h1],fun n=>?_⟩;rw[List.map_append];show iU n (_++[x.name]) (_++[rT x.text])=_;rw[F5 J',h2,zN];by_cases e:x.name=n
   ·subst e;rw[if_pos rfl,if_pos rfl];cases na (l.take k) x.name<;>rfl
   ·rw[if_neg e,if_neg (fun h=>e h.symm)];simp
def bC(v:cw)(n:Nat):gH:=if n<v.calls.length then nth v.calls n else⟨⟨#[]⟩,0,[]⟩
def kn(v:cw)(n:Nat):UX:=if n<v.calls.length then(nth v.calls n).name++(⟨#[32]⟩:UX)++cA (nth v.calls n).bA else(⟨#[45]⟩:UX)
def qG(h x y:UX):UX:=h++x++(⟨#[32,124,32]⟩:UX)++y
def lG(h x y:UX):List UX:=if x=y then[]else[qG h x y]
def qQ(n:Nat)(d:List aG)(x:aG):List UX:=lG (cA n++(⟨#[32]⟩:UX)++x.name++(⟨#[32]⟩:UX)) x.text (mm d x.name)
def p9(n:Nat)(c:List aG)(x:aG):List UX:=if mm c x.name=(⟨#[45]⟩:UX)then[qG (cA n++(⟨#[32]⟩:UX)++x.name++(⟨#[32]⟩:UX)) (⟨#[45]⟩:UX) x.text]else[]
def qp(n:Nat)(a b:cw):List UX:=
 lG (cA n++(⟨#[32]⟩:UX)++(⟨#[97,116,32]⟩:UX)) (kn a n) (kn b n)++(bC a n).vars.flatMap (qQ n (bC b n).vars)++(bC b n).vars.flatMap (p9 n (bC a n).vars)
def pF(a b:cw)(n:Nat):List UX:=
 qp n a b++(if qp n a b=[]/\(bC a n).vars≠(bC b n).vars then[cA n++(⟨#[32]⟩:UX)++(⟨#[118,97,114,115]⟩:UX)]else[])
def mG:List UX->List UX->Nat
 |x::a,y::b=>if x=y then mG a b+1 else 0
 |_,_=>0
def zi(x:UX):UX:=(⟨#[111,117,116,32]⟩:UX)++x++(⟨#[32,124,32]⟩:UX)++(⟨#[45]⟩:UX)
def zM(x:UX):UX:=(⟨#[111,117,116,32,45,32,124,32]⟩:UX)++x
def pQ(a b:List UX):List UX:=(a.drop (mG a b)).map zi++(b.drop (mG a b)).map zM
def nh(s t:Int):UX:=if s=0 then(⟨#[114,117,110,115]⟩:UX)else if s=1 then(⟨#[119,97,105,116,115]⟩:UX)else if s=2 then(⟨#[101,110,100,115]⟩:UX)else(⟨#[102,97,108,108,115,32]⟩:UX)++cA t
def oy(a b:cw)(k:Nat):List UX:=(List.range k).flatMap (pF a b)
def nb(a b:cw):List UX:=
 oy a b (max a.calls.length b.calls.length)++pQ a.aS b.aS++lG (⟨#[105,110,32]⟩:UX) (cA a.in_) (cA b.in_)++
  (if a.status≠b.status\/a.bs≠b.bs then[nh a.status a.bs++(⟨#[32,124,32]⟩:UX)++nh b.status b.bs]else[])
def JH(a b:cw)(k:Nat):oy a b (k+1)=oy a b k++pF a b k:=by unfold oy;rw[List.range_succ,List.flatMap_append];simp
variable{l:List aG}
def LB{f:aG->List UX}{k:Nat}(h:k<l.length):(l.take (k+1)).flatMap f=(l.take k).flatMap f++f (nth l k):=by rw[nA h,List.flatMap_append];simp
def L7(a:Int)(b:UInt8):Int:=a*10+((b.toNat:Int)-48)
def Hc(l:List UInt8):Int:=l.foldl L7 0
theorem su:∀(n u:Nat),u<n->Hc (Lib.decDigits u)=u/\(∀x∈Lib.decDigits u,48<=x.toNat/\x.toNat<=57)/\Lib.decDigits u≠[]
 |0,u,h=>by omega
 |n+1,u,h=>by
  have hd:∀d:Nat,d<10->(UInt8.ofNat (48+d)).toNat=48+d:=jC;rw[Lib.decDigits];split
  ·rename_i h1;refine⟨?_,fun x hx=>?_,jE⟩
   ·show(0:Int)*10+(((UInt8.ofNat (48+u)).toNat:Int)-48)=u;rw[hd u h1];omega
   ·rw[List.mem_singleton]at hx;subst hx;rw[hd u h1];omega
  ·obtain⟨e1,e2,_⟩:=su n (u / 10) jB;have h3:=hd (u % 10) jB;refine⟨?_,fun x hx=>?_,jE⟩
   ·unfold Hc at e1 ⊢;rw[List.foldl_append,e1];show(((u / 10:Nat):Int)*10+(((UInt8.ofNat (48+u % 10)).toNat:Int)-48))=_;rw[h3];omega
   ·rcases List.mem_append.1 hx with hx|hx
    ·exact e2 x hx
    ·rw[List.mem_singleton]at hx;subst hx;rw[h3];omega
def zS(n:Int):(cA n).data.toList=if n<0 then 45::Lib.decDigits n.natAbs else Lib.decDigits n.toNat:=by unfold cA Lib.itoa;rfl
def Ce{m:Int}(h:cA m=cA n):m=n:=by
 have h:=congrArg (fun b:UX=>b.data.toList) h;simp only[zS]at h;have no:∀(a b:Nat),(45:UInt8)::Lib.decDigits a≠Lib.decDigits b:=fun a b e=>by have:=(su (b+1) b (Nat.lt_succ_self b)).2.1 45 (by rw[<-e];simp);exact absurd this.1 jC
 have inj:∀(a b:Nat),Lib.decDigits a=Lib.decDigits b->a=b:=fun a b e=>by have h1:=(su (a+1) a (Nat.lt_succ_self a)).1;have h2:=(su (b+1) b (Nat.lt_succ_self b)).1;rw[e,h2]at h1;omega
 split at h<;>split at h
 ·have:=inj _ _ (List.cons.inj h).2;omega
 ·exact(no _ _ h).elim
 ·exact(no _ _ h.symm).elim
 ·have:=inj _ _ h;omega
theorem I5:∀(a b:List UX),mG a b<=a.length/\mG a b<=b.length
 |[],_=>⟨Nat.le_refl _,Nat.zero_le _⟩
 |_::_,[]=>⟨Nat.zero_le _,Nat.le_refl _⟩
 |x::a,y::b=>by have:=I5 a b;unfold mG;split<;>simp<;>omega
theorem JC:∀(a b:List UX) (k:Nat),k<=a.length->k<=b.length->(∀j,j<k->nth a j=nth b j)->(k<a.length->k<b.length->nth a k≠nth b k)->mG a b=k
 |[],b,k,h1,h2,_,_=>by have:k=0:=(by simpa using h1);subst this;rfl
 |x::a,[],k,h1,h2,_,_=>by have:k=0:=(by simpa using h2);subst this;rfl
 |x::a,y::b,0,h1,h2,h3,h4=>by have:x≠y:=h4 jE jE;unfold mG;rw[if_neg this]
 |x::a,y::b,k+1,h1,h2,h3,h4=>by have e:x=y:=h3 0 jB;unfold mG;rw[if_pos e,JC a b k (by simpa using h1) (by simpa using h2) (fun j hj=>h3 (j+1) jB) fun g1 g2=>h4 (by simpa using g1) (by simpa using g2)]
structure l9(c:gH):Prop where
 n:c.vars.length<=100000
 name:c.name.size<=1000
 bA:bG c.bA
 var:∀x∈c.vars,x.name.size<=1000/\x.text.size<=100000
structure gk(v:cw):Prop where
 calls:v.calls.length<=1000
 call:∀c∈v.calls,l9 c
 outs:v.aS.length<=1000
 out:∀t∈v.aS,t.size<=1000
 in_:bG v.in_
 Jp:0<=v.status
 Hd:v.status<=3
 bs:bG v.bs
theorem gk.bC{v:cw}(h:gk v)(n:Nat):l9 (bC v n):=by
 unfold Go.Gd.bC;split
 ·exact h.call _ (cV (by assumption))
 ·exact⟨Nat.zero_le _,Nat.zero_le _,by unfold bG;decide,fun x hx=>by cases hx⟩
def gk.head{v:cw}(h:gk v)(n:Nat):(kn v n).size<=1100:=by
 unfold kn;split
 ·have hc:=h.call _ (cV (by assumption));have:=hc.name;have:=nJ hc.bA;rw[ByteArray.size_append,ByteArray.size_append];show(nth v.calls n).name.size+1+_<=_;omega
 ·show(1:Nat)<=_;omega
theorem Ep:∀(l:List aG) (n:UX),(∀x∈l,x.name.size<=1000/\x.text.size<=100000)->(mm l n).size<=100000
 |[],n,_=>by show(1:Nat)<=_;omega
 |x::l,n,h=>by
  unfold mm;split
  ·exact(h x jE).2
  ·exact Ep l n fun y hy=>h y (by simp[hy])
def vz(h x y:UX):(lG h x y).length<=1:=by unfold lG;split<;>simp
theorem yz{f:aG->List UX}(h:∀x,(f x).length<=1):∀(l:List aG),(l.flatMap f).length<=l.length
 |[]=>Nat.le_refl _
 |x::l=>by have:=yz h l;have:=h x;rw[List.flatMap_cons,List.length_append,List.length_cons];omega
def GC(n:Nat)(c:List aG)(x:aG):(p9 n c x).length<=1:=by unfold p9;split<;>simp
def J2(M:List UX)(f:aG->List UX)(h1:∀x,(f x).length<=1)(l:List aG):∃A:Nat->List UX,A 0=M/\(∀k,k<l.length->A (k+1)=A k++f (nth l k))/\A l.length=M++l.flatMap f/\∀k,(A k).length<=M.length+l.length:=by
 refine⟨fun k=>M++(l.take k).flatMap f,jE,fun k hk=>by show M++_=_;rw[LB hk,List.append_assoc],by show M++_=_;rw[List.take_length],fun k=>?_⟩;show(M++_).length<=_;have:=yz h1 (l.take k);rw[List.length_append];have:(l.take k).length<=l.length:=by rw[List.length_take];omega
 omega
def IT(s t:Int)(h:bG t):(nh s t).size<=40:=by
 have:=nJ h;unfold nh;split
 ·decide
 split
 ·decide
 split
 ·decide
 ·rw[ByteArray.size_append];show 6+_<=_;omega
def Np(a b:cw)(n:Nat)(ha:gk a)(hb:gk b):(pF a b n).length<=200002:=by
 have h1:=yz (f:=qQ n (bC b n).vars) (fun x=>vz _ _ _) (bC a n).vars;have h2:=yz (f:=p9 n (bC a n).vars) (fun x=>GC _ _ _) (bC b n).vars;have h3:=vz (cA n++(⟨#[32]⟩:UX)++(⟨#[97,116,32]⟩:UX)) (kn a n) (kn b n);have h4:=(ha.bC n).n;have h5:=(hb.bC n).n;have h6:(if qp n a b=[]/\(bC a n).vars≠(bC b n).vars then[cA n++(⟨#[32]⟩:UX)++(⟨#[118,97,114,115]⟩:UX)]else[]).length<=1:=by split<;>simp
 unfold pF;rw[List.length_append];have h7:(qp n a b).length<=200001:=by unfold qp;rw[List.length_append,List.length_append];omega
 omega
theorem A4(a b:cw)(ha:gk a)(hb:gk b):∀k,(oy a b k).length<=200002*k
 |0=>Nat.le_refl _
 |k+1=>by have:=A4 a b ha hb k;have:=Np a b k ha hb;rw[JH,List.length_append];omega
def Jg(M:List UX)(g:UX->UX)(l:List UX):∃A:Nat->List UX,A 0=M/\(∀k,k<l.length->A (k+1)=A k++[g (nth l k)])/\A l.length=M++l.map g/\∀k,(A k).length<=M.length+l.length:=by refine⟨fun k=>M++(l.take k).map g,jE,fun k hk=>by show M++_=_;rw[nA hk,List.map_append,<-List.append_assoc];rfl,by show M++_=_;rw[List.take_length],fun k=>?_⟩;show(M++_).length<=_;rw[List.length_append,List.length_map,List.length_take];omega
def QT{α:Type}[Inhabited α]{a b:List α}(hl:a.length=b.length)(h:∀j,j<a.length->nth a j=nth b j):a=b:=by
 refine List.ext_getElem hl fun i h1 h2=>?_
 have:=h i h1;rwa [ee h1,ee h2]at this
abbrev lt(s:UX):List UInt8:=s.data.toList
def qm(a b:UX):lt (a++b)=lt a++lt b:=vN a b
theorem uH{x:UInt8}:∀{a c b d:List UInt8},x ∉ a->x ∉ c->a++x::b=c++x::d->a=c/\b=d
 |[],[],b,d,_,_,h=>⟨rfl,(List.cons.inj h).2⟩
 |[],y::c,b,d,_,h2,h=>by have:=(List.cons.inj h).1;exact(h2 (by rw[this];simp)).elim
 |y::a,[],b,d,h1,_,h=>by have:=(List.cons.inj h).1;exact(h1 (by rw[<-this];simp)).elim
 |y::a,z::c,b,d,h1,h2,h=>by obtain⟨e,h⟩:=List.cons.inj h;obtain⟨e1,e2⟩:=uH (fun h=>h1 (by simp[h])) (fun h=>h2 (by simp[h])) h;exact⟨by rw[e,e1],e2⟩
def Lk{x:UInt8}{a c b d:List UInt8}(h1:x ∉ b)(h2:x ∉ d)(h:a++x::b=c++x::d):a=c/\b=d:=by have h:=congrArg List.reverse h;simp only[List.reverse_append,List.reverse_cons,List.append_assoc,List.singleton_append]at h;have:=uH (a:=b.reverse) (c:=d.reverse) (fun h=>h1 (List.mem_reverse.1 h)) (fun h=>h2 (List.mem_reverse.1 h)) h;exact⟨List.reverse_inj.1 this.2,List.reverse_inj.1 this.1⟩
def Qs(n:Int):∀x∈lt (cA n),x=45\/48<=x.toNat/\x.toNat<=57:=fun x hx=>by
 have hx:x∈(cA n).data.toList:=hx;rw[zS]at hx;split at hx
 ·rcases List.mem_cons.1 hx with e|hx
  ·exact .inl e
  ·exact .inr ((su _ _ (Nat.lt_succ_self _)).2.1 x hx)
 ·exact .inr ((su _ _ (Nat.lt_succ_self _)).2.1 x hx)
def vP{x:UInt8}(h:x≠45)(h2:¬(48<=x.toNat/\x.toNat<=57))(n:Int):x ∉ lt (cA n):=fun hx=>(Qs n x hx).elim h h2
def FX(n:Int):lt (cA n)≠[]:=by
 show(cA n).data.toList≠[];rw[zS];split
 ·simp
 ·exact(su _ _ (Nat.lt_succ_self _)).2.2
def Md{T X Y:List UInt8}(hX:(124:UInt8) ∉ X)(hY:(124:UInt8) ∉ Y)(h:T++([32,124,32]++T)=X++([32,124,32]++Y)):X=Y:=by
 have hc:=congrArg (List.count (124:UInt8)) h;simp only[List.count_append]at hc;rw[List.count_eq_zero.2 hX,List.count_eq_zero.2 hY,show List.count (124:UInt8) [32,124,32]=1 from jC]at hc;have hT:(124:UInt8) ∉ T:=List.count_eq_zero.1 jB;have hm:∀{A:List UInt8},(124:UInt8) ∉ A->(124:UInt8) ∉ A++[32]:=fun hA h=>by
  rcases List.mem_append.1 h with h|h
  ·exact hA h
  ·exact absurd h jC
 have h:(T++[32])++124::(32::T)=(X++[32])++124::(32::Y):=by simpa using h
 obtain⟨e1,e2⟩:=uH (hm hT) (hm hX) h;have e1:=List.append_cancel_right e1;rw[<-e1];exact(List.cons.inj e2).2
structure VG(v:cw):Prop where
 nm:∀c∈v.calls,(124:UInt8) ∉ lt c.name
 yd:∀c∈v.calls,∀i j,i<c.vars.length->j<c.vars.length->(nth c.vars i).name=(nth c.vars j).name->i=j
 sp:∀c∈v.calls,∀x∈c.vars,(32:UInt8) ∉ lt x.name
 tx:∀c∈v.calls,∀x∈c.vars,x.text≠(⟨#[45]⟩:ByteArray)
def uc(l:List aG):Prop:=∀i j,i<l.length->j<l.length->(nth l i).name=(nth l j).name->i=j
def uc.tail{x:aG}(h:uc (x::l)):uc l:=fun i j hi hj e=>by have:=h (i+1) (j+1) (by simpa using hi) (by simpa using hj) e;omega
theorem Ax:∀{l:List aG},uc l->∀x∈l,mm l x.name=x.text
 |y::l,h,x,hx=>by
  unfold mm;rcases List.mem_cons.1 hx with rfl|hx
  ·rw[if_pos rfl]
  ·by_cases c:y.name=x.name
   ·obtain⟨k,hk,e⟩:=List.getElem_of_mem hx;have he:nth l k=x:=by rw[ee hk];exact e
    have:=h 0 (k+1) jE jF (by show y.name=(nth l k).name;rw[he];exact c);omega
   ·rw[if_neg c];exact Ax h.tail x hx
def LR(h:uc l){x y:aG}(hx:x∈l)(hy:y∈l)(e:x.name=y.name):x=y:=by
 obtain⟨i,hi,ei⟩:=List.getElem_of_mem hx;obtain⟨j,hj,ej⟩:=List.getElem_of_mem hy;have e1:nth l i=x:=by rw[ee hi];exact ei
 have e2:nth l j=y:=by rw[ee hj];exact ej
 have:=h i j hi hj (by rw[e1,e2];exact e);subst this;rw[<-e1,<-e2]
theorem IM:∀(a:List UX),mG a a=a.length
 |[]=>rfl
 |x::a=>by unfold mG;rw[if_pos rfl,IM a];rfl
theorem Fi:∀{a b:List UX},mG a b=a.length->mG a b=b.length->a=b
 |[],b,_,h2=>by have h2:(0:Nat)=b.length:=h2;exact(List.length_eq_zero_iff.1 h2.symm).symm
 |x::a,[],h1,_=>by have h1:(0:Nat)=a.length+1:=h1;omega
 |x::a,y::b,h1,h2=>by
  unfold mG at h1 h2;by_cases c:x=y
  ·rw[if_pos c]at h1 h2;have h1:mG a b+1=a.length+1:=h1;have h2:mG a b+1=b.length+1:=h2;rw[c,Fi (a:=a) (b:=b) jB jB]
  ·rw[if_neg c]at h1;have h1:(0:Nat)=a.length+1:=h1;omega
def FA{v:cw}{n:Nat}(h:n<v.calls.length):bC v n∈v.calls:=by unfold bC;rw[if_pos h];exact cV h
section
variable {a b:cw}(ha:VG a)(hb:VG b)
variable{n:Nat}
def Jh{v:cw}(h:¬n<v.calls.length):(bC v n).vars=[]:=by unfold bC;rw[if_neg h]
include ha in
theorem O6(n:Nat):pF a a n=[]:=by
 have hv:qp n a a=[]:=by
  unfold qp;have h1:(bC a n).vars.flatMap (qQ n (bC a n).vars)=[]:=by
   by_cases c:n<a.calls.length
   ·have hm:=FA c;refine List.flatMap_eq_nil_iff.2 fun x hx=>?_
    unfold qQ lG;rw[if_pos (Ax (ha.yd _ hm) x hx).symm]
   ·rw[Jh c];rfl
  have h2:(bC a n).vars.flatMap (p9 n (bC a n).vars)=[]:=by
   by_cases c:n<a.calls.length
   ·have hm:=FA c;refine List.flatMap_eq_nil_iff.2 fun x hx=>?_
    unfold p9;rw[if_neg (by rw[Ax (ha.yd _ hm) x hx];exact ha.tx _ hm x hx)]
   ·rw[Jh c];rfl
  rw[h1,h2];unfold lG;rw[if_pos rfl];rfl
 unfold pF;rw[hv,if_neg (fun h=>h.2 rfl)];rfl
include ha in
theorem Oj:nb a a=[]:=by unfold nb oy pQ lG;rw[List.flatMap_eq_nil_iff.2 fun n _=>O6 ha n,IM,List.drop_length,if_pos rfl,if_neg jE];rfl
theorem IG{v:cw}(h:n<v.calls.length):kn v n≠(⟨#[45]⟩:UX):=fun e=>by unfold kn at e;rw[if_pos h]at e;have e:=congrArg lt e;simp only[qm]at e;have hl:=congrArg List.length e;have h2:=FX (nth v.calls n).bA;have h3:0<(lt (cA (nth v.calls n).bA)).length:=List.length_pos_iff.2 h2;have h4:(lt (⟨#[32]⟩:UX)).length=1:=jC;have h5:(lt (⟨#[45]⟩:UX)).length=1:=jC;simp only[List.length_append]at hl;omega
theorem Qk{v w:cw}(h1:n<v.calls.length)(h2:n<w.calls.length)(e:kn v n=kn w n):(nth v.calls n).name=(nth w.calls n).name/\(nth v.calls n).bA=(nth w.calls n).bA:=by
 unfold kn at e;rw[if_pos h1,if_pos h2]at e;have e:=congrArg lt e;simp only[qm]at e;have hs:lt (⟨#[32]⟩:UX)=[32]:=jC;rw[hs]at e;have e:lt (nth v.calls n).name++32::lt (cA (nth v.calls n).bA)=lt (nth w.calls n).name++32::lt (cA (nth w.calls n).bA):=by simpa using e
 obtain⟨e1,e2⟩:=Lk (vP jC jC _) (vP jC jC _) e;exact⟨uL e1,Ce (uL e2)⟩
theorem JS{h x y:UX}(e:lG h x y=[]):x=y:=by
 unfold lG at e;by_cases c:x=y
 ·exact c
 ·rw[if_neg c]at e;cases e
theorem Mi(h:nb a b=[]):a=b:=by
 unfold nb at h;obtain⟨h,h4⟩:=List.append_eq_nil_iff.1 h;obtain⟨h,h3⟩:=List.append_eq_nil_iff.1 h;obtain⟨h1,h2⟩:=List.append_eq_nil_iff.1 h;have hn:∀n,n<max a.calls.length b.calls.length->kn a n=kn b n/\(bC a n).vars=(bC b n).vars:=fun n hn=>by
  have hc:=List.flatMap_eq_nil_iff.1 h1 n (List.mem_range.2 hn);unfold pF at hc;obtain⟨c1,c2⟩:=List.append_eq_nil_iff.1 hc;have hv:(bC a n).vars=(bC b n).vars:=by
   by_cases c:(bC a n).vars=(bC b n).vars
   ·exact c
   ·rw[if_pos ⟨c1,c⟩]at c2;cases c2
  unfold qp at c1;obtain⟨c1,_⟩:=List.append_eq_nil_iff.1 c1;obtain⟨c1,_⟩:=List.append_eq_nil_iff.1 c1;exact⟨JS c1,hv⟩
 have J':a.calls.length=b.calls.length:=by
  rcases Nat.lt_trichotomy a.calls.length b.calls.length with c|c|c
  ·have:=(hn a.calls.length jB).1;rw[show kn a a.calls.length=(⟨#[45]⟩:UX) by unfold kn;rw[if_neg (Nat.lt_irrefl _)]]at this;exact(IG c this.symm).elim
  ·exact c
  ·have:=(hn b.calls.length jB).1;rw[show kn b b.calls.length=(⟨#[45]⟩:UX) by unfold kn;rw[if_neg (Nat.lt_irrefl _)]]at this;exact(IG c this).elim
 have Y7:a.calls=b.calls:=QT J' fun n hna=>by have hnb:n<b.calls.length:=jB;obtain⟨e1,e2⟩:=hn n jB;obtain⟨e3,e4⟩:=Qk hna hnb e1;unfold bC at e2;rw[if_pos hna,if_pos hnb]at e2;generalize nth a.calls n=x at*;generalize nth b.calls n=y at*;obtain⟨x1,x2,x3⟩:=x;obtain⟨y1,y2,y3⟩:=y;simp only at e2 e3 e4;rw[e2,e3,e4]
 have ZA:a.aS=b.aS:=by unfold pQ at h2;obtain⟨o1,o2⟩:=List.append_eq_nil_iff.1 h2;have o1:=List.map_eq_nil_iff.1 o1;have o2:=List.map_eq_nil_iff.1 o2;have o1:=List.drop_eq_nil_iff.1 o1;have o2:=List.drop_eq_nil_iff.1 o2;have:=I5 a.aS b.aS;exact Fi jB jB
 have Wb:a.in_=b.in_:=Ce (JS h3);have O':a.status=b.status/\a.bs=b.bs:=by
  by_cases c:a.status≠b.status\/a.bs≠b.bs
  ·rw[if_pos c]at h4;cases h4
  ·exact⟨Classical.not_not.1 fun h=>c (.inl h),Classical.not_not.1 fun h=>c (.inr h)⟩
 obtain⟨a1,a2,a3,a4,a5⟩:=a;obtain⟨b1,b2,b3,b4,b5⟩:=b;simp only at Y7 ZA Wb O';rw[Y7,ZA,Wb,O'.1,O'.2]
end
def De:lt (⟨#[32]⟩:UX)=[32]:=jC
def TK:lt (⟨#[32,124,32]⟩:UX)=[32,124,32]:=jC
variable{u v:List UInt8}
def yB{i:Int}(h:lt (cA i)++32::u=lt (cA n)++32::v):i=n/\u=v:=by obtain⟨e1,e2⟩:=uH (vP jC jC i) (vP jC jC n) h;exact⟨Ce (uL e1),e2⟩
def G9{v:cw}(hv:VG v)(n:Nat):(124:UInt8) ∉ lt (kn v n):=by
 unfold kn;split
 ·rename_i c;rw[qm,qm,De];intro h;rcases List.mem_append.1 h with h|h
  ·rcases List.mem_append.1 h with h|h
   ·exact hv.nm _ (cV c) h
   ·exact absurd h jC
  ·exact vP jC jC _ h
 ·decide
def z7(i:Int)(nm x y:UX):lt (qG (cA i++(⟨#[32]⟩:UX)++nm++(⟨#[32]⟩:UX)) x y)=lt (cA i)++32::(lt nm++32::(lt x++([32,124,32]++lt y))):=by unfold qG;simp only[qm,De,TK];simp
def Ba{h x y t:UX}(e:t∈lG h x y):x≠y/\t=qG h x y:=by
 unfold lG at e;by_cases c:x=y
 ·rw[if_pos c]at e;cases e
 ·rw[if_neg c]at e;exact⟨c,List.mem_singleton.1 e⟩
def P7{s:UX}(h:lt s≠[]):∃x l,lt s=x::l:=by
 cases e:lt s with
 |nil=>exact(h e).elim
 |cons x l=>exact⟨x,l,rfl⟩
def vg{i:Int}{x:UInt8}(hx:x≠45)(h2:¬(48<=x.toNat/\x.toNat<=57))(h:lt (cA i)++u=x::v):False:=by obtain⟨y,l,e⟩:=P7 (FX i);rw[e]at h;have h3:=(List.cons.inj h).1;exact vP hx h2 i (by rw[e,<-h3];simp)
def Qq{a b:cw}(ha:VG a)(hb:VG b){i:Nat}(h1:i<a.calls.length)(h2:i<b.calls.length){y:aG}(hy:y∈(nth a.calls i).vars) :
  qG (cA i++(⟨#[32]⟩:UX)++y.name++(⟨#[32]⟩:UX)) y.text (mm (nth b.calls i).vars y.name)∈nb a b<->mm (nth b.calls i).vars y.name≠y.text:=by
 have ca:bC a i=nth a.calls i:=by unfold bC;rw[if_pos h1]
 have cb:bC b i=nth b.calls i:=by unfold bC;rw[if_pos h2]
 have V7:=cV h1;refine⟨fun h ho=>?_,fun h=>?_⟩
 ·rw[ho]at h;unfold nb at h;have hl:=z7 i y.name y.text y.text;generalize hL:qG (cA i++(⟨#[32]⟩:UX)++y.name++(⟨#[32]⟩:UX)) y.text y.text=L at*;rcases List.mem_append.1 h with h|h
  rotate_left
  ·split at h
   ·have e:=congrArg lt (List.mem_singleton.1 h);rw[hl]at e;unfold nh at e;simp only[qm]at e;split at e
    ·exact vg (x:=114) jC jC e
    split at e
    ·exact vg (x:=119) jC jC e
    split at e
    ·exact vg (x:=101) jC jC e
    ·exact vg (x:=102) jC jC e
   ·cases h
  rcases List.mem_append.1 h with h|h
  rotate_left
  ·have e:=congrArg lt (Ba h).2;rw[hl]at e;unfold qG at e;simp only[qm]at e;exact vg (x:=105) jC jC e
  rcases List.mem_append.1 h with h|h
  rotate_left
  ·unfold pQ at h;rcases List.mem_append.1 h with h|h
   ·obtain⟨t,_,e⟩:=List.mem_map.1 h;have e:=congrArg lt e.symm;rw[hl]at e;unfold zi at e;simp only[qm]at e;exact vg (x:=111) jC jC e
   ·obtain⟨t,_,e⟩:=List.mem_map.1 h;have e:=congrArg lt e.symm;rw[hl]at e;unfold zM at e;simp only[qm]at e;exact vg (x:=111) jC jC e
  obtain⟨n,_,h⟩:=List.mem_flatMap.1 h;unfold pF at h;have Xn:=ha.sp _ V7 y hy;rcases List.mem_append.1 h with h|h
  rotate_left
  ·split at h
   ·have e:=congrArg lt (List.mem_singleton.1 h);rw[hl]at e;simp only[qm,De]at e;have e:lt (cA i)++32::(lt y.name++32::(lt y.text++([32,124,32]++lt y.text)))=lt (cA n)++32::(lt (⟨#[118,97,114,115]⟩:UX)):=by simpa using e
    have e:=(yB e).2;have:(32:UInt8)∈lt (⟨#[118,97,114,115]⟩:UX):=by rw[<-e];simp
    exact absurd this jC
   ·cases h
  unfold qp at h;rcases List.mem_append.1 h with h|h
  rotate_left
  ·obtain⟨x,hx,h⟩:=List.mem_flatMap.1 h;unfold p9 at h;split at h
   ·rename_i c;have e:=congrArg lt (List.mem_singleton.1 h);rw[hl,z7]at e;obtain⟨e1,e2⟩:=yB e;have e1:n=i:=jB;subst e1;have VM:x∈(nth b.calls n).vars:=by rw[<-cb];exact hx
    obtain⟨e3,_⟩:=uH Xn (hb.sp _ (cV h2) x VM) e2;have e3:y.name=x.name:=uL e3;rw[ca,<-e3,Ax (ha.yd _ V7) y hy]at c;exact ha.tx _ V7 y hy c
   ·cases h
  rcases List.mem_append.1 h with h|h
  ·obtain⟨VZ,e⟩:=Ba h;have e:=congrArg lt e;have ea:cA n++(⟨#[32]⟩:UX)++(⟨#[97,116,32]⟩:UX)=cA n++(⟨#[32]⟩:UX)++(⟨#[97,116]⟩:UX)++(⟨#[32]⟩:UX):=by
    rw[ByteArray.append_assoc,ByteArray.append_assoc,ByteArray.append_assoc];rfl
   rw[hl,ea,z7]at e;obtain⟨_,e2⟩:=yB e;obtain⟨_,e4⟩:=uH Xn jC e2;exact VZ (uL (Md (G9 ha n) (G9 hb n) e4))
  ·obtain⟨x,hx,h⟩:=List.mem_flatMap.1 h;unfold qQ at h;obtain⟨VZ,e⟩:=Ba h;have e:=congrArg lt e;rw[hl,z7]at e;obtain⟨e1,e2⟩:=yB e;have e1:n=i:=jB;subst e1;have YP:x∈(nth a.calls n).vars:=by rw[<-ca];exact hx
   obtain⟨e3,_⟩:=uH Xn (ha.sp _ V7 x YP) e2;have:=LR (ha.yd _ V7) hy YP (uL e3);subst this;rw[cb]at VZ;exact VZ ho.symm
 ·unfold nb;refine List.mem_append_left _ (List.mem_append_left _ (List.mem_append_left _ ?_));refine List.mem_flatMap.2 ⟨i,List.mem_range.2 jB,?_⟩;unfold pF qp;refine List.mem_append_left _ (List.mem_append_left _ (List.mem_append_right _ ?_));rw[ca,cb];refine List.mem_flatMap.2 ⟨y,hy,?_⟩;unfold qQ lG;rw[if_neg (fun e=>h e.symm)];simp
end Go.Gd
namespace Go.Proofs.YtjpcgmjaipfgdaaGreatDoor
open Go Go.Gd Tryz
def SG(v:aj)(h:bG v.n)(hz:v.s.size<=1000000):aL prog 225 [rV v] (rS (tC v)):=by
 have hw:=FZ v h;refine dG func225 ntmps225 ?_
 (repeat' (first|refine au fun K hK=>?_|refine aq ?_|(refine hK _ _ ?_;clear hK K)|(refine ar ?_ ?_<;>intro hc<;>try exact jz)|refine cp (hw) ?_|refine av ?_|exact jI|(clear hK K)))
 all_goals(refine bu [.tmp 2] ?_;try simp only[go_sem])
 all_goals(unfold tC;(repeat' split)<;>first|rfl|omega|contradiction|skip)
def LQ{H:Hp}{e:UY}{i n:Nat}(l:List UX)(sep:UX)(hi:H.get i=some (.aD e 1 (l.map eS)))(hn:n=l.length)(J':(p6 l sep).size<=140737488355328)(hl:l.length<=140737488355328) :
  cS prog 247 [.rs i n 1 n,rS sep] H (fun r H'=>r=rS (p6 l sep)/\H'=H):=by
 intro w vs hw hv;obtain⟨Vb,hv⟩:=hv;have Vb:vs.size=2:=Vb.symm;obtain⟨v0,v1,rfl⟩:∃v0 v1,vs=#[v0,v1]:=by
  rcases vs with⟨vs⟩
  match vs,Vb with
  |[a,b],_=>exact⟨a,b,rfl⟩
 have h0:=hv 0 _ v0 rfl rfl;have h1:=cZ (hv 1 _ v1 rfl rfl);subst h1;cases h0 with
 |iH _ _ _ A Vh=> have Wt:l=[]:=List.length_eq_zero_iff.1 hn.symm;subst Wt;refine(Tryz.strings_Join_none A 0 sep w.toWorld).mono ?_;rintro e W ⟨rfl,rfl⟩;exact⟨_,_,H,w,rfl,rfl,⟨rfl,rfl⟩,hw,.raw _,Ext.refl w H⟩
 |rs _ _ _ _ b t c Vh hc Vj Wp=>
  subst hn;have Vu:(Lib.join (l.map (·.data.toList)) sep.data.toList).length<=140737488355328:=by
   have:(p6 l sep).size=(Lib.join (l.map (·.data.toList)) sep.data.toList).length:=by show(Lib.join _ _).toArray.size=_;simp
   omega
  refine(Tryz.strings_Join b 0 c l sep w.toWorld (fun j x hx=>?_) (hw.lt Vh) hl Vj Vu).mono ?_
  ·have hj:j<(l.map eS).length:=by simpa using(List.getElem?_eq_some_iff.1 hx).1
   obtain⟨_,_,_,v,g1,g2⟩:=sG hw hi (by simpa using Vh) hj (j:=0) jB;have Vq:((l.map eS).getD j [])[0]?=some (.raw (.string x)):=by rw[List.getD_eq_getElem?_getD,List.getElem?_map,hx];rfl
   have:=cZ (g2 _ Vq);subst this;rw[show 0+j=j*1+0 from jB];exact g1
  ·rintro e W ⟨rfl,hb⟩;obtain⟨k1,k2⟩:=hw.below hb;exact⟨_,_,H,w.to W,rfl,rfl,⟨rfl,rfl⟩,k1,.raw _,k2⟩
def cJ{H:Hp}{K:UP}{e:UY}{i n:Nat}(l:List UX)(sep:UX)(hi:H.get i=some (.aD e 1 (l.map eS)))(hn:n=l.length)(J':(p6 l sep).size<=140737488355328)(hl:l.length<=140737488355328)(h0:aW prog 247=true)(k:K (rS (p6 l sep)) H):eQ prog (.raw (.func (.func 247) #[] #[])) [.rs i n 1 n,rS sep] H K:=
 nS h0 ((LQ l sep hi hn J' hl).mono fun r H' ⟨e1,e2⟩=>by subst e1 e2;exact k)
def pB(L:List UX):UR:=[(0,.var 150 [.rs 1 L.length 1 L.length]),(1,.aD 9 1 (L.map eS))]
attribute [go_sem] pB
@[go_sem] theorem Gy(q:U2):∀(l:List UX),aR q (l.map rS)=true
 |[]=>rfl
 |x::l=>by have:=Gy q l;simp only[List.map_cons,aR,AV.all,this,Bool.and_self]
@[go_sem] def j6o(q:U2)(l:List UX)(x:UX):aR q (l.map rS++[rS x])=true:=by rw[show l.map rS++[rS x]=(l++[x]).map rS from jE];exact Gy q _
def B7(L:List UX)(h x y:UX)(hL:L.length<=10000000000)(hh:h.size<=100000)(hx:x.size<=100000)(hy:y.size<=100000):ab prog 81 [.pt 0 0 0 0,rS h,rS x,rS y] (pB L) (fun r l'=>r=.aY []/\l'=pB (L++lG h x y)):=by
 unfold lG qG;by_cases e:x=y
 ·rw[if_pos e,List.append_nil];refine aK func81 ntmps81 ?_;refine S ?_
  (have W:=e;repeat' (first|refine au fun K hK=>?_|refine aq ?_|(refine hK _ _ ?_;clear hK K)|(refine ar ?_ ?_<;>intro hc<;>try exact jz)|refine av ?_|exact jI|(clear hK K)))
  (refine bL [] ?_ ?_<;>(try simp only[go_sem]))
 ·rw[if_neg e];have e':=eq_false e;refine aK func81 ntmps81 ?_;refine S ?_
  (have W:=e';repeat' (first|refine au fun K hK=>?_|refine aq ?_|(refine hK _ _ ?_;clear hK K)|(refine ar ?_ ?_<;>intro hc<;>try exact jz)|refine av ?_|exact jI|(clear hK K)))
  (refine bL [] ?_ ?_<;>(try simp only[go_sem]))
  rfl
def JI(v:cw)(n:Nat)(h:gk v)(hn:n<=1000):aL prog 132 [.agg (fv v),rI n] (.aY [.agg (jq (bC v n)),rS (kn v n)]):=by
 have U9:=h.calls;unfold kn bC;by_cases I':n<v.calls.length
 ·have hc:=h.call _ (cV I');have ZP:=hc.name;have hit:=qZ _ hc.bA;have XI:=nJ hc.bA;rw[if_pos I',if_pos I'];generalize hx:nth v.calls n=c at*;refine dG func132 ntmps132 ?_
  (have W:=hx;repeat' (first|refine au fun K hK=>?_|refine aq ?_|(with_reducible refine gR 4 ?_);refine dC 4 ([1],[24],[]) [] (bf 0 10) mixed ?_|(refine hK _ _ ?_;clear hK K)|(refine ar ?_ ?_<;>intro hc<;>try exact jz)|refine bx 0 ?_|refine al 1 ?_|refine al 2 ?_|refine cq (hit) ?_|refine av ?_|exact jI|(clear hK K)))
  (refine bu [.cell 4 78,.tmp 5] ?_;try simp only[go_sem])
 ·rw[if_neg I',if_neg I'];refine dG func132 ntmps132 ?_
  (repeat' (first|refine au fun K hK=>?_|refine aq ?_|(refine hK _ _ ?_;clear hK K)|(refine ar ?_ ?_<;>intro hc<;>try exact jz)|refine bx 0 ?_|refine al 1 ?_|refine av ?_|exact jI|(clear hK K)))
  refine iM [.cell 4 78,.tmp 5] ?_;exact cn.aY (ds:=[.agg (jq ⟨⟨#[]⟩,0,[]⟩),rS (⟨#[45]⟩:UX)]) ⟨cn.agg (ds:=jq ⟨⟨#[]⟩,0,[]⟩) ⟨.same _ rfl,.same _ rfl,.nil _ _,trivial⟩,.same _ rfl,trivial⟩
def UL(l:List aG)(hl:l.length<=1000000):ab prog 133 [aO j7 2 l] [] (fun r l'=>r=.mr 7/\l'=[(7,.mp ((fc l).1.map Value.string) ((fc l).2.map rS))]):=by
 refine aK func133 ntmps133 ?_;refine S ?_
 (repeat' (first|refine au fun K hK=>?_|refine aq ?_|(refine hK _ _ ?_;clear hK K)|(refine ar ?_ ?_<;>intro hc<;>try exact jz)|refine nX 7 ?_|refine av ?_|exact jI|(clear hK K)))
 have U6:=hK;clear hK;refine dw (S:=Nat) [(5,3),(11,19)] (fun k=>k<=l.length) (fun k=>[(11,rI k)]) (fun k=>⟨[],[(7,.mp ((fc (l.take k)).1.map Value.string) ((fc (l.take k)).2.map rS))]⟩) (fun k=>l.length-k) 0 jB (dx rfl bS) ?_;rintro k hk Kr U8;by_cases I':k<l.length
 ·have hs:=B8 (l.take k) (nth l k);rw[<-nA I']at hs;obtain⟨h1,h2⟩:=AG (l.take k);have h3:=h2 (nth l k).name;have J':(fc (l.take k)).1.length=((fc (l.take k)).2.map rS).length:=by rw[List.length_map];exact h1
  generalize hx:nth l k=x at*;unfold xA at hs;generalize fc (l.take k)=A at*;cases hm:iU x.name A.1 (A.2.map rS)with
  |some v=>
   rw[hm]at hs;rw[if_pos (show(some v).isSome=true from rfl)]at hs;refine S ?_
   (have W:=hx;repeat' (first|refine au fun K hK=>?_|refine aq ?_|(refine hK _ _ ?_;clear hK K)|(refine ar ?_ ?_<;>intro hc<;>try exact jz)|refine fA 5 ?_|refine jb A.1 (.string ⟨#[]⟩) (.aY [v,rB true]) qN jG (by unfold jR;rw[if_pos rfl,hm]) ?_|refine av ?_|exact jI|(clear hK K)))
   refine U8 _ _ (lc [5] (k+1) jB (by show l.length-(k+1)<l.length-k;omega) (by rfl) Sd (by rw[hs];rfl) ie)
  |none=>
   rw[hm]at hs;rw[if_neg jE]at hs;obtain⟨e1,e2⟩:=Dj (n:=x.name) (x:=rS x.text) J' hm;refine S ?_
   (have W:=jA hx (jA e1 (e2));repeat' (first|refine au fun K hK=>?_|refine aq ?_|(refine hK _ _ ?_;clear hK K)|(refine ar ?_ ?_<;>intro hc<;>try exact jz)|refine fA 5 ?_|refine jb A.1 (.string ⟨#[]⟩) (.aY [rS ⟨#[]⟩,rB false]) qN jG (by unfold jR;rw[if_pos rfl,hm]) ?_|refine tH A.1 qN ?_|refine av ?_|exact jI|(clear hK K)))
   refine U8 _ _ (lc [5] (k+1) jB (by show l.length-(k+1)<l.length-k;omega) (by rfl) Sd (by rw[hs];simp only[List.map_append];rfl) ie)
 ·have WO:k=l.length:=jB;subst WO;rw[List.take_length];refine S ?_
  (repeat' (first|refine au fun K hK=>?_|refine aq ?_|(refine hK _ _ ?_;clear hK K)|(refine ar ?_ ?_<;>intro hc<;>try exact jz)|refine U6 _ _ ?_|refine av ?_|exact jI|(clear hK K)))
  (refine bL [.tmp 2] ?_ ?_<;>(try simp only[go_sem]))
def QJ(l:List aG)(n:UX):ab prog 134 [.mr 7,rS n] [(7,.mp ((fc l).1.map Value.string) ((fc l).2.map rS))] (fun r l'=>r=rS (mm l n)/\l'=[(7,.mp ((fc l).1.map Value.string) ((fc l).2.map rS))]):=by
 obtain⟨h1,h2⟩:=AG l;have h3:=h2 n;rw[xi];generalize fc l=A at*;cases hf:na l n with
 |some t=>
  rw[hf]at h3;refine aK func134 ntmps134 ?_;refine S ?_
  (repeat' (first|refine au fun K hK=>?_|refine aq ?_|(refine hK _ _ ?_;clear hK K)|(refine ar ?_ ?_<;>intro hc<;>try exact jz)|refine jb A.1 (.string ⟨#[]⟩) (.aY [rS t,rB true]) qN jG (by unfold jR;rw[if_pos rfl,h3];rfl) ?_|refine av ?_|exact jI|(clear hK K)))
  (refine bL [.tmp 4] ?_ ?_<;>(try simp only[go_sem]))
 |none=>
  rw[hf]at h3;refine aK func134 ntmps134 ?_;refine S ?_
  (repeat' (first|refine au fun K hK=>?_|refine aq ?_|(refine hK _ _ ?_;clear hK K)|(refine ar ?_ ?_<;>intro hc<;>try exact jz)|refine jb A.1 (.string ⟨#[]⟩) (.aY [rS ⟨#[]⟩,rB false]) qN jG (by unfold jR;rw[if_pos rfl,h3];rfl) ?_|refine av ?_|exact jI|(clear hK K)))
  (refine bL [.tmp 4] ?_ ?_<;>(try simp only[go_sem]))
def UA(l:List aG)(hl:l.length<=1000000):ab prog 133 [aO j7 2 l] [] (fun r l'=>r=.mr 8/\l'=[(8,.mp ((fc l).1.map Value.string) ((fc l).2.map rS))]):=by
 refine aK func133 ntmps133 ?_;refine S ?_
 (repeat' (first|refine au fun K hK=>?_|refine aq ?_|(refine hK _ _ ?_;clear hK K)|(refine ar ?_ ?_<;>intro hc<;>try exact jz)|refine nX 8 ?_|refine av ?_|exact jI|(clear hK K)))
 have U6:=hK;clear hK;refine dw (S:=Nat) [(5,3),(11,19)] (fun k=>k<=l.length) (fun k=>[(11,rI k)]) (fun k=>⟨[],[(8,.mp ((fc (l.take k)).1.map Value.string) ((fc (l.take k)).2.map rS))]⟩) (fun k=>l.length-k) 0 jB (dx rfl bS) ?_;rintro k hk Kr U8;by_cases I':k<l.length
 ·have hs:=B8 (l.take k) (nth l k);rw[<-nA I']at hs;obtain⟨h1,h2⟩:=AG (l.take k);have h3:=h2 (nth l k).name;have J':(fc (l.take k)).1.length=((fc (l.take k)).2.map rS).length:=by rw[List.length_map];exact h1
  generalize hx:nth l k=x at*;unfold xA at hs;generalize fc (l.take k)=A at*;cases hm:iU x.name A.1 (A.2.map rS)with
  |some v=>
   rw[hm]at hs;rw[if_pos (show(some v).isSome=true from rfl)]at hs;refine S ?_
   (have W:=hx;repeat' (first|refine au fun K hK=>?_|refine aq ?_|(refine hK _ _ ?_;clear hK K)|(refine ar ?_ ?_<;>intro hc<;>try exact jz)|refine fA 5 ?_|refine jb A.1 (.string ⟨#[]⟩) (.aY [v,rB true]) qN jG (by unfold jR;rw[if_pos rfl,hm]) ?_|refine av ?_|exact jI|(clear hK K)))
   refine U8 _ _ (lc [5] (k+1) jB (by show l.length-(k+1)<l.length-k;omega) (by rfl) Sd (by rw[hs];rfl) ie)
  |none=>
   rw[hm]at hs;rw[if_neg jE]at hs;obtain⟨e1,e2⟩:=Dj (n:=x.name) (x:=rS x.text) J' hm;refine S ?_
   (have W:=jA hx (jA e1 (e2));repeat' (first|refine au fun K hK=>?_|refine aq ?_|(refine hK _ _ ?_;clear hK K)|(refine ar ?_ ?_<;>intro hc<;>try exact jz)|refine fA 5 ?_|refine jb A.1 (.string ⟨#[]⟩) (.aY [rS ⟨#[]⟩,rB false]) qN jG (by unfold jR;rw[if_pos rfl,hm]) ?_|refine tH A.1 qN ?_|refine av ?_|exact jI|(clear hK K)))
   refine U8 _ _ (lc [5] (k+1) jB (by show l.length-(k+1)<l.length-k;omega) (by rfl) Sd (by rw[hs];simp only[List.map_append];rfl) ie)
 ·have WO:k=l.length:=jB;subst WO;rw[List.take_length];refine S ?_
  (repeat' (first|refine au fun K hK=>?_|refine aq ?_|(refine hK _ _ ?_;clear hK K)|(refine ar ?_ ?_<;>intro hc<;>try exact jz)|refine U6 _ _ ?_|refine av ?_|exact jI|(clear hK K)))
  (refine bL [.tmp 2] ?_ ?_<;>(try simp only[go_sem]))
def Ul(l:List aG)(n:UX):ab prog 134 [.mr 8,rS n] [(8,.mp ((fc l).1.map Value.string) ((fc l).2.map rS))] (fun r l'=>r=rS (mm l n)/\l'=[(8,.mp ((fc l).1.map Value.string) ((fc l).2.map rS))]):=by
 obtain⟨h1,h2⟩:=AG l;have h3:=h2 n;rw[xi];generalize fc l=A at*;cases hf:na l n with
 |some t=>
  rw[hf]at h3;refine aK func134 ntmps134 ?_;refine S ?_
  (repeat' (first|refine au fun K hK=>?_|refine aq ?_|(refine hK _ _ ?_;clear hK K)|(refine ar ?_ ?_<;>intro hc<;>try exact jz)|refine jb A.1 (.string ⟨#[]⟩) (.aY [rS t,rB true]) qN jG (by unfold jR;rw[if_pos rfl,h3];rfl) ?_|refine av ?_|exact jI|(clear hK K)))
  (refine bL [.tmp 4] ?_ ?_<;>(try simp only[go_sem]))
 |none=>
  rw[hf]at h3;refine aK func134 ntmps134 ?_;refine S ?_
  (repeat' (first|refine au fun K hK=>?_|refine aq ?_|(refine hK _ _ ?_;clear hK K)|(refine ar ?_ ?_<;>intro hc<;>try exact jz)|refine jb A.1 (.string ⟨#[]⟩) (.aY [rS ⟨#[]⟩,rB false]) qN jG (by unfold jR;rw[if_pos rfl,h3];rfl) ?_|refine av ?_|exact jI|(clear hK K)))
  (refine bL [.tmp 4] ?_ ?_<;>(try simp only[go_sem]))
def E5(v:cw)(h0:0<=v.status)(h3:v.status<=3)(h:bG v.bs):aL prog 83 [.agg (fv v)] (rS (nh v.status v.bs)):=by
 have htr:=qZ v.bs h;have hts:=nJ h;have h4:v.status=0\/v.status=1\/v.status=2\/v.status=3:=jB;rcases h4 with hs|hs|hs|hs
 ·have hw:nh v.status v.bs=(⟨#[114,117,110,115]⟩:UX):=by unfold nh;rw[hs];rfl
  rw[hw];refine dG func83 ntmps83 ?_
  (have W:=hs;repeat' (first|refine au fun K hK=>?_|refine aq ?_|(refine hK _ _ ?_;clear hK K)|(refine ar ?_ ?_<;>intro hc<;>try exact jz)|refine bx 0 ?_|refine nX 1 ?_|refine gl [] lq ?_|refine gl [0] lq ?_|refine gl [0,1] lq ?_|refine gl [0,1,2] lq ?_|(refine pw (c:=false) (n:=0) (vs:=[rS (⟨#[114,117,110,115]⟩:UX),rS (⟨#[119,97,105,116,115]⟩:UX),rS (⟨#[101,110,100,115]⟩:UX),rS ((⟨#[102,97,108,108,115,32]⟩:UX)++cA v.bs)]) [0,1,2,3] (.string ⟨#[]⟩) (rS ((⟨#[114,117,110,115]⟩:UX))) lq jG rfl ?_)|refine cp (htr) ?_|refine av ?_|exact jI|(clear hK K)))
  (refine bu [.tmp 2] ?_;try simp only[go_sem])
 ·have hw:nh v.status v.bs=(⟨#[119,97,105,116,115]⟩:UX):=by unfold nh;rw[hs];rfl
  rw[hw];refine dG func83 ntmps83 ?_
  (have W:=hs;repeat' (first|refine au fun K hK=>?_|refine aq ?_|(refine hK _ _ ?_;clear hK K)|(refine ar ?_ ?_<;>intro hc<;>try exact jz)|refine bx 0 ?_|refine nX 1 ?_|refine gl [] lq ?_|refine gl [0] lq ?_|refine gl [0,1] lq ?_|refine gl [0,1,2] lq ?_|(refine pw (c:=false) (n:=1) (vs:=[rS (⟨#[114,117,110,115]⟩:UX),rS (⟨#[119,97,105,116,115]⟩:UX),rS (⟨#[101,110,100,115]⟩:UX),rS ((⟨#[102,97,108,108,115,32]⟩:UX)++cA v.bs)]) [0,1,2,3] (.string ⟨#[]⟩) (rS ((⟨#[119,97,105,116,115]⟩:UX))) lq jG rfl ?_)|refine cp (htr) ?_|refine av ?_|exact jI|(clear hK K)))
  (refine bu [.tmp 2] ?_;try simp only[go_sem])
 ·have hw:nh v.status v.bs=(⟨#[101,110,100,115]⟩:UX):=by unfold nh;rw[hs];rfl
  rw[hw];refine dG func83 ntmps83 ?_
  (have W:=hs;repeat' (first|refine au fun K hK=>?_|refine aq ?_|(refine hK _ _ ?_;clear hK K)|(refine ar ?_ ?_<;>intro hc<;>try exact jz)|refine bx 0 ?_|refine nX 1 ?_|refine gl [] lq ?_|refine gl [0] lq ?_|refine gl [0,1] lq ?_|refine gl [0,1,2] lq ?_|(refine pw (c:=false) (n:=2) (vs:=[rS (⟨#[114,117,110,115]⟩:UX),rS (⟨#[119,97,105,116,115]⟩:UX),rS (⟨#[101,110,100,115]⟩:UX),rS ((⟨#[102,97,108,108,115,32]⟩:UX)++cA v.bs)]) [0,1,2,3] (.string ⟨#[]⟩) (rS ((⟨#[101,110,100,115]⟩:UX))) lq jG rfl ?_)|refine cp (htr) ?_|refine av ?_|exact jI|(clear hK K)))
  (refine bu [.tmp 2] ?_;try simp only[go_sem])
 ·have hw:nh v.status v.bs=(⟨#[102,97,108,108,115,32]⟩:UX)++cA v.bs:=by unfold nh;rw[hs];rfl
  rw[hw];refine dG func83 ntmps83 ?_
  (have W:=hs;repeat' (first|refine au fun K hK=>?_|refine aq ?_|(refine hK _ _ ?_;clear hK K)|(refine ar ?_ ?_<;>intro hc<;>try exact jz)|refine bx 0 ?_|refine nX 1 ?_|refine gl [] lq ?_|refine gl [0] lq ?_|refine gl [0,1] lq ?_|refine gl [0,1,2] lq ?_|(refine pw (c:=false) (n:=3) (vs:=[rS (⟨#[114,117,110,115]⟩:UX),rS (⟨#[119,97,105,116,115]⟩:UX),rS (⟨#[101,110,100,115]⟩:UX),rS ((⟨#[102,97,108,108,115,32]⟩:UX)++cA v.bs)]) [0,1,2,3] (.string ⟨#[]⟩) (rS ((⟨#[102,97,108,108,115,32]⟩:UX)++cA v.bs)) lq jG rfl ?_)|refine cp (htr) ?_|refine av ?_|exact jI|(clear hK K)))
  (refine bu [.tmp 2] ?_;try simp only[go_sem])
def M9(a b:List aG)(ha:a.length<=1000000000):aL prog 135 [aO j7 2 a,aO j7 2 b] (rB (decide (a=b))):=by
 refine dG func135 ntmps135 ?_
 (repeat' (first|refine au fun K hK=>?_|refine aq ?_|(refine hK _ _ ?_;clear hK K)|(refine ar ?_ ?_<;>intro hc<;>try exact jz)|refine av ?_|exact jI|(clear hK K)))
 ·(refine bu [.tmp 4] ?_;try simp only[go_sem])
  rw[show decide (a=b)=false from decide_eq_false fun h=>hc (by rw[h])]
 have hl:a.length=b.length:=jB;have U6:=hK;clear hK;refine dw (S:=Nat) [(4,2),(13,13)] (fun k=>k<=a.length/\∀j,j<k->nth a j=nth b j) (fun k=>[(13,rI k)]) (fun k=>⟨[],[]⟩) (fun k=>a.length-k) 0 ⟨jB,fun j h=>jB⟩ (dx jD bS) ?_;rintro k ⟨Vs,Va⟩ Kr U8;generalize hx:nth a k=x at*;generalize hy:nth b k=y at*;refine S ?_
 (have W:=jA hx hy;repeat' (first|refine au fun K hK=>?_|refine aq ?_|(with_reducible refine gR 6 ?_);refine dE 6 (bf 0 9) mixed ?_|(refine hK _ _ ?_;clear hK K)|(refine ar ?_ ?_<;>intro hc<;>try exact jz)|refine U6 _ _ ?_|refine av ?_|exact jI|(clear hK K)))
 ·(refine bu [.tmp 4] ?_;try simp only[go_sem])
  rw[show decide (a=b)=false from decide_eq_false fun h=>hc (by rw[<-hx,<-hy,h])]
 ·refine U8 _ _ (dO (k+1) ⟨jB,fun j hj=>?_⟩ jJ jD bS);by_cases h:j<k
  ·exact Va j h
  ·rw[show j=k from jB,hx,hy];exact hc
 ·(refine bu [.tmp 4] ?_;try simp only[go_sem])
  rw[show decide (a=b)=true from decide_eq_true (yP hl fun j hj=>Va j jB)]
def K5(L a b:List UX)(hL:L.length<=1000000000)(a2:a.length<=1000)(b2:b.length<=1000)(oa:∀t∈a,t.size<=1000)(ob:∀t∈b,t.size<=1000):ab prog 80 [.pt 0 0 0 0,aO eS 1 a,aO eS 1 b] (pB L) (fun r l'=>r=.aY []/\l'=pB (L++pQ a b)):=by
 generalize hR:L++pQ a b=R;refine aK func80 ntmps80 ?_;refine S ?_
 (repeat' (first|refine au fun K hK=>?_|refine aq ?_|(refine hK _ _ ?_;clear hK K)|(refine ar ?_ ?_<;>intro hc<;>try exact jz)|refine av ?_|exact jI|(clear hK K)))
 have U6:=hK;clear hK;refine dw (S:=Nat) [(6,1),(11,20)] (fun k=>k<=a.length/\k<=b.length/\∀j,j<k->nth a j=nth b j) (fun k=>[(6,rI k)]) (fun _=>⟨[0,1],pB L⟩) (fun k=>a.length-k) 0 ⟨jB,jB,fun j hj=>jB⟩ (dx rfl bS) ?_;rintro k ⟨Vs,Va,Xo⟩ Ks ZW;refine S ?_
 (repeat' (first|refine au fun K hK=>?_|refine aq ?_|(with_reducible refine gR 1 ?_);refine dE 1 (bf 0 18) mixed ?_|(refine hK _ _ ?_;clear hK K)|(refine ar ?_ ?_<;>intro hc<;>try exact jz)|refine U6 _ _ ?_|refine av ?_|exact jI|(clear hK K)))
 ·obtain⟨g0,g3⟩:=hc;have g12:k<a.length/\k<b.length:=by split at g0<;>omega
  obtain⟨g1,g2⟩:=g12;refine ZW _ _ (dO (k+1) ⟨jB,jB,fun j hj=>?_⟩ (by show a.length-(k+1)<a.length-k;omega) rfl bS);by_cases h:j<k
  ·exact Xo j h
  ·rw[show j=k from jB];exact g3
 have V5:mG a b=k:=JC _ _ _ Vs Va Xo fun h1 h2 e=>by
  rcases hc with h|h
  ·split at h<;>omega
  ·exact h e
 clear hc Xo;have U6:=hK;clear hK;have hdl:(a.drop k).length=a.length-k:=List.length_drop;have hdl2:(b.drop k).length=b.length-k:=List.length_drop;have oA:∀t∈a.drop k,t.size<=1000:=fun t ht=>oa t (List.mem_of_mem_drop ht)
 have oB:∀t∈b.drop k,t.size<=1000:=fun t ht=>ob t (List.mem_of_mem_drop ht)
 unfold pQ at hR;rw[V5]at hR;generalize hAd:a.drop k=Ad at*;generalize hBd:b.drop k=Bd at*;have hta:List.take (a.length-k) Ad=Ad:=List.take_of_length_le jB;have htb:List.take (b.length-k) Bd=Bd:=List.take_of_length_le jB;rw[hta];obtain⟨A,Yy,Y8,hAe,hAl⟩:=Jg L zi Ad;refine dw (S:=Nat) [(8,1),(35,18)] (fun i=>i<=Ad.length) (fun i=>[(35,rI i)]) (fun i=>⟨[0,1],pB (A i)⟩) (fun i=>Ad.length-i) 0 jB (dx (by rw[Yy];try rfl) bS) ?_;rintro i hi Kt hKt;have hl:=hAl i;by_cases I':i<Ad.length
 ·have hs:=Y8 i I';have hz:=oA _ (cV I');generalize hx:nth Ad i=x at*;unfold zi at hs;refine S ?_
  (have W:=hx;repeat' (first|refine au fun K hK=>?_|refine aq ?_|(refine hK _ _ ?_;clear hK K)|(refine ar ?_ ?_<;>intro hc<;>try exact jz)|refine av ?_|exact jI|(clear hK K)))
  refine hKt _ _ (dO (i+1) jB (by show Ad.length-(i+1)<Ad.length-i;omega) (by rw[hs];first|done|rfl|(unfold pB;simp only[List.map_append,List.length_append,List.length_cons,List.length_nil];first|done|rfl)) bS)
 have hie:i=Ad.length:=jB;subst hie;clear Y8 Yy I';generalize A Ad.length=M1 at*;refine S ?_
 (repeat' (first|refine au fun K hK=>?_|refine aq ?_|(refine hK _ _ ?_;clear hK K)|(refine ar ?_ ?_<;>intro hc<;>try exact jz)|refine U6 _ _ ?_|refine av ?_|exact jI|(clear hK K)))
 have U6:=hK;clear hK;rw[hBd,htb];obtain⟨A2,Yy,Y8,hak,ham⟩:=Jg M1 zM Bd;refine dw (S:=Nat) [(10,1),(57,16)] (fun i=>i<=Bd.length) (fun i=>[(57,rI i)]) (fun i=>⟨[0,1],pB (A2 i)⟩) (fun i=>Bd.length-i) 0 jB (dx (by rw[Yy];try rfl) bS) ?_;rintro i hi Ku hKu;have Vf:=ham i;by_cases I':i<Bd.length
 ·have hs:=Y8 i I';have hz:=oB _ (cV I');generalize hx:nth Bd i=x at*;unfold zM at hs;refine S ?_
  (have W:=hx;repeat' (first|refine au fun K hK=>?_|refine aq ?_|(refine hK _ _ ?_;clear hK K)|(refine ar ?_ ?_<;>intro hc<;>try exact jz)|refine av ?_|exact jI|(clear hK K)))
  refine hKu _ _ (dO (i+1) jB (by show Bd.length-(i+1)<Bd.length-i;omega) (by rw[hs];first|done|rfl|(unfold pB;simp only[List.map_append,List.length_append,List.length_cons,List.length_nil];first|done|rfl)) bS)
 have hie:i=Bd.length:=jB;subst hie;clear Y8 Yy I';generalize A2 Bd.length=M2 at*;have hMR:M2=R:=by rw[hak,hAe,List.append_assoc,hR]
 subst hMR;refine S ?_
 (repeat' (first|refine au fun K hK=>?_|refine aq ?_|(refine hK _ _ ?_;clear hK K)|(refine ar ?_ ?_<;>intro hc<;>try exact jz)|refine av ?_|exact jI|(clear hK K)))
 (refine bL [] ?_ ?_<;>(try simp only[go_sem]))
def L3(L:List UX)(n:Nat)(a b:cw)(hL:L.length<=1000000000)(ha:gk a)(hb:gk b)(hn:n<=1000):ab prog 79 [.pt 0 0 0 0,rI n,.agg (fv a),.agg (fv b)] (pB L) (fun r l'=>r=.aY []/\l'=pB (L++pF a b n)):=by
 have hit:=qZ n (by unfold bG;omega);have XI:=nJ (n:=n) (by unfold bG;omega);have h1:=JI a n ha hn;have h2:=JI b n hb hn;have z1:=ha.head n;have z2:=hb.head n;have o1:=ha.bC n;have o2:=hb.bC n;have ov1:=o1.n;have ov2:=o2.n;generalize hR:L++pF a b n=R;unfold pF qp at hR;generalize kn a n=X at*;generalize kn b n=Y at*;generalize bC a n=c at*;generalize bC b n=d at*;have t1:=UL c.vars jB;have t2:=UA d.vars jB;have q1:=M9 c.vars d.vars jB;have VL:(cA n++(⟨#[32]⟩:UX)++(⟨#[97,116,32]⟩:UX)).size<=100000:=by rw[ByteArray.size_append,ByteArray.size_append];show(cA n).size+1+3<=_;omega
 have p1:=B7 L (cA n++(⟨#[32]⟩:UX)++(⟨#[97,116,32]⟩:UX)) X Y jB VL jB jB;generalize hM0:L++lG (cA n++(⟨#[32]⟩:UX)++(⟨#[97,116,32]⟩:UX)) X Y=M0 at*;refine aK func79 ntmps79 ?_;refine S ?_
 (repeat' (first|refine au fun K hK=>?_|refine aq ?_|(with_reducible refine gR 1 ?_);refine dQ 1 mixed ?_|(with_reducible refine gR 5 ?_);refine dC 5 ([],[],[48,51]) [] [0,1,3,4,2,5,6,7] mixed ?_|(refine hK _ _ ?_;clear hK K)|(refine ar ?_ ?_<;>intro hc<;>try exact jz)|refine cL 2 ?_|refine cL 3 ?_|refine fA 4 ?_|refine fA 5 ?_|refine cq (hit) ?_|refine cp (h1) ?_|refine cp (h2) ?_|refine cm (p1) ?_|(refine cN t1 ?_)|(refine cN t2 ?_)|refine av ?_|exact jI|(clear hK K)))
 (repeat clear hc)
 have YT:M0.length<=L.length+1:=by rw[<-hM0,List.length_append];have:=vz (cA n++(⟨#[32]⟩:UX)++(⟨#[97,116,32]⟩:UX)) X Y;omega
 clear p1 t1 t2 h1 h2 hit;have U6:=hK;clear hK;obtain⟨A,Yy,Y8,hAe,hAl⟩:=J2 M0 (qQ n d.vars) (fun x=>vz _ _ _) c.vars;refine dw (S:=Nat) [(17,1),(55,18)] (fun k=>k<=c.vars.length) (fun k=>[(55,rI k)]) (fun k=>⟨[0,1],[(0,.var 150 [.rs 1 (A k).length 1 (A k).length]),(1,.aD 9 1 ((A k).map eS)),(2,.var 67 (fv a)),(3,.var 67 (fv b)),(4,.var 78 (jq c)),(5,.var 78 (jq d)),(7,.mp ((fc c.vars).1.map Value.string) ((fc c.vars).2.map rS)),(8,.mp ((fc d.vars).1.map Value.string) ((fc d.vars).2.map rS))]⟩) (fun k=>c.vars.length-k) 0 jB (dx (by rw[Yy];try rfl) bS) ?_;rintro k hk Kr U8;have WB:=hAl k;by_cases I':k<c.vars.length
 ·have YK:=Y8 k I';obtain⟨WS,ZB⟩:=o1.var _ (cV I');have Y5:=Ul d.vars (nth c.vars k).name;have hfz:=Ep d.vars (nth c.vars k).name o2.var;have hps:(cA n++(⟨#[32]⟩:UX)++(nth c.vars k).name++(⟨#[32]⟩:UX)).size<=100000:=by
   rw[ByteArray.size_append,ByteArray.size_append,ByteArray.size_append];show(cA n).size+1+_+1<=_;omega
  have hpu:=B7 (A k) (cA n++(⟨#[32]⟩:UX)++(nth c.vars k).name++(⟨#[32]⟩:UX)) (nth c.vars k).text (mm d.vars (nth c.vars k).name) jB hps jB jB;generalize ZV:nth c.vars k=x at*;unfold qQ at YK;rw[<-YK]at hpu;generalize hA':A (k+1)=A' at hpu;clear YK;refine S ?_
  (have W:=ZV;repeat' (first|refine au fun K hK=>?_|refine aq ?_|(with_reducible refine gR 9 ?_);refine dC 9 ([0,1],[],[70,71]) [] (bf 0 13) mixed ?_|(refine hK _ _ ?_;clear hK K)|(refine ar ?_ ?_<;>intro hc<;>try exact jz)|refine fA 6 ?_|(refine sH Y5 ?_)|(refine sH hpu ?_)|refine av ?_|exact jI|(clear hK K)))
  refine U8 _ _ (lc [6] (k+1) jB (by show c.vars.length-(k+1)<c.vars.length-k;omega) (by rfl) Sd (by rw[hA'];rfl) ie)
 have WO:k=c.vars.length:=jB;subst WO;clear Y8 Yy I';generalize A c.vars.length=M1 at*;refine S ?_
 (repeat' (first|refine au fun K hK=>?_|refine aq ?_|(refine hK _ _ ?_;clear hK K)|(refine ar ?_ ?_<;>intro hc<;>try exact jz)|refine U6 _ _ ?_|refine av ?_|exact jI|(clear hK K)))
 have U6:=hK;clear hK;obtain⟨A2,Yy,Y8,hak,ham⟩:=J2 M1 (p9 n c.vars) (fun x=>GC _ _ _) d.vars;refine dw (S:=Nat) [(19,1),(76,29)] (fun k=>k<=d.vars.length) (fun k=>[(76,rI k)]) (fun k=>⟨[0,1],[(0,.var 150 [.rs 1 (A2 k).length 1 (A2 k).length]),(1,.aD 9 1 ((A2 k).map eS)),(2,.var 67 (fv a)),(3,.var 67 (fv b)),(4,.var 78 (jq c)),(5,.var 78 (jq d)),(7,.mp ((fc c.vars).1.map Value.string) ((fc c.vars).2.map rS)),(8,.mp ((fc d.vars).1.map Value.string) ((fc d.vars).2.map rS))]⟩) (fun k=>d.vars.length-k) 0 jB (dx (by rw[Yy];try rfl) bS) ?_;rintro k hk Ks ZW;have Vf:=ham k;by_cases I':k<d.vars.length
 ·have YK:=Y8 k I';obtain⟨WS,ZB⟩:=o2.var _ (cV I');have Y5:=QJ c.vars (nth d.vars k).name;generalize ZV:nth d.vars k=x at*;unfold p9 qG at YK;generalize mm c.vars x.name=T at*;by_cases ht:T=(⟨#[45]⟩:UX)
  ·rw[if_pos ht]at YK;refine S ?_
   (have W:=jA ZV ht;repeat' (first|refine au fun K hK=>?_|refine aq ?_|(with_reducible refine gR 15 ?_);refine dE 15 (bf 0 20) mixed ?_|(refine hK _ _ ?_;clear hK K)|(refine ar ?_ ?_<;>intro hc<;>try exact jz)|refine fA 6 ?_|refine cm (Y5) ?_|refine av ?_|exact jI|(clear hK K)))
   refine ZW _ _ (lc [6] (k+1) jB (by show d.vars.length-(k+1)<d.vars.length-k;omega) (by rfl) Sd (by rw[YK];simp only[List.map_append,List.length_append,List.length_cons,List.length_nil];rfl) ie)
  ·rw[if_neg ht,List.append_nil]at YK;have XM:=eq_false ht;refine S ?_
   (have W:=jA ZV (XM);repeat' (first|refine au fun K hK=>?_|refine aq ?_|(refine hK _ _ ?_;clear hK K)|(refine ar ?_ ?_<;>intro hc<;>try exact jz)|refine fA 6 ?_|refine cm (Y5) ?_|refine av ?_|exact jI|(clear hK K)))
   refine ZW _ _ (lc [6] (k+1) jB (by show d.vars.length-(k+1)<d.vars.length-k;omega) (by rfl) Sd (by rw[YK];rfl) ie)
 have WO:k=d.vars.length:=jB;subst WO;clear Y8 Yy I';generalize A2 d.vars.length=M2 at*;have hM2:M2=L++(lG (cA n++(⟨#[32]⟩:UX)++(⟨#[97,116,32]⟩:UX)) X Y++c.vars.flatMap (qQ n d.vars)++d.vars.flatMap (p9 n c.vars)):=by rw[hak,hAe,<-hM0,List.append_assoc,List.append_assoc,List.append_assoc]
 generalize lG (cA n++(⟨#[32]⟩:UX)++(⟨#[97,116,32]⟩:UX)) X Y++c.vars.flatMap (qQ n d.vars)++d.vars.flatMap (p9 n c.vars)=N at*;rw[<-List.append_assoc,<-hM2]at hR;have J':M2.length=L.length+N.length:=by rw[hM2,List.length_append]
 by_cases hN:N=[]
 ·have XH:(M2.length:Int)=L.length:=by rw[J',hN];simp
  by_cases Zz:c.vars=d.vars
  ·rw[if_neg (fun h=>h.2 Zz),List.append_nil]at hR;subst hR;rw[decide_eq_true Zz]at q1;refine S ?_
   (have W:=XH;repeat' (first|refine au fun K hK=>?_|refine aq ?_|(refine hK _ _ ?_;clear hK K)|(refine ar ?_ ?_<;>intro hc<;>try exact jz)|refine cq (q1) ?_|refine U6 _ _ ?_|refine av ?_|exact jI|(clear hK K)))
   (refine bu [] ?_;try simp only[go_sem])
  ·rw[if_pos ⟨hN,Zz⟩]at hR;subst hR;rw[decide_eq_false Zz]at q1;refine S ?_
   (have W:=XH;repeat' (first|refine au fun K hK=>?_|refine aq ?_|(refine hK _ _ ?_;clear hK K)|(refine ar ?_ ?_<;>intro hc<;>try exact jz)|refine cq (q1) ?_|refine U6 _ _ ?_|refine av ?_|exact jI|(clear hK K)))
   (refine bu [] ?_;try simp only[go_sem])
 ·rw[if_neg (fun h=>hN h.1),List.append_nil]at hR;subst hR;have XH:((M2.length:Int)=L.length)=False:=eq_false fun e=>hN (List.length_eq_zero_iff.1 jB)
  generalize decide (c.vars=d.vars)=e at q1;cases e;all_goals
   refine S ?_
   (have W:=XH;repeat' (first|refine au fun K hK=>?_|refine aq ?_|(refine hK _ _ ?_;clear hK K)|(refine ar ?_ ?_<;>intro hc<;>try exact jz)|(refine⟨rB false,?_⟩;refine S ?_)|refine U6 _ _ ?_|refine av ?_|exact jI|(clear hK K)))
   (refine bu [] ?_;try simp only[go_sem])
def TU(a b:cw)(ha:gk a)(hb:gk b):(nb a b).length<=1000000000:=by
 have h1:=A4 a b ha hb (max a.calls.length b.calls.length);have h2:=ha.calls;have h3:=hb.calls;have h4:=ha.outs;have h5:=hb.outs;have h6:=vz (⟨#[105,110,32]⟩:UX) (cA a.in_) (cA b.in_);unfold nb pQ;rw[List.length_append,List.length_append,List.length_append,List.length_append,List.length_map,List.length_map,List.length_drop,List.length_drop];have h7:(if a.status≠b.status\/a.bs≠b.bs then[nh a.status a.bs++(⟨#[32,124,32]⟩:UX)++nh b.status b.bs]else[]).length<=1:=by split<;>simp
 omega
def Dz(a b:cw)(ha:gk a)(hb:gk b):aL prog 33 [.agg (fv a),.agg (fv b)] (aO eS 1 (nb a b)):=by
 have a1:=ha.calls;have b1:=hb.calls;have a2:=ha.outs;have b2:=hb.outs;have i1:=qZ a.in_ ha.in_;have i2:=qZ b.in_ hb.in_;have z1:=nJ ha.in_;have z2:=nJ hb.in_;have s1:=E5 a ha.Jp ha.Hd ha.bs;have s2:=E5 b hb.Jp hb.Hd hb.bs;have y1:=IT a.status a.bs ha.bs;have y2:=IT b.status b.bs hb.bs;generalize hR:nb a b=R;unfold nb at hR;refine dG func33 ntmps33 ?_
 (repeat' (first|refine au fun K hK=>?_|refine aq ?_|(refine hK _ _ ?_;clear hK K)|(refine ar ?_ ?_<;>intro hc<;>try exact jz)|refine bx 2 ?_|refine bx 3 ?_|refine bx 0 ?_|refine av ?_|exact jI|(clear hK K)))
 refine iQ (dM.fz 1 0 0 9 1 rfl jC rfl rfl) ?_
 (refine S ?_;try exact jI)
 have U6:=hK;clear hK;have YT:oy a b 0=[]:=rfl;refine dw (S:=Nat) [(6,1),(16,9)] (fun k=>k<=max a.calls.length b.calls.length) (fun k=>[(16,rI k)]) (fun k=>⟨[],[(2,.var 67 (fv a)),(3,.var 67 (fv b)),(0,.var 150 [.rs 1 (oy a b k).length 1 (oy a b k).length]),(1,.aD 9 1 ((oy a b k).map eS))]⟩) (fun k=>max a.calls.length b.calls.length-k) 0 jB (dx (by rw[YT];rfl) bS) ?_;rintro k hk Kr U8;have Xs:=A4 a b ha hb k;by_cases I':k<max a.calls.length b.calls.length
 ·have hrc:=L3 (oy a b k) k a b jB ha hb jB;have hsn:=JH a b k;rw[<-hsn]at hrc;generalize hA':oy a b (k+1)=A' at hrc;generalize oy a b k=A at*;have XG:max (a.calls.length:Int) (b.calls.length:Int)=((max a.calls.length b.calls.length:Nat):Int):=jB;refine S ?_
  (repeat' (first|refine au fun K hK=>?_|refine aq ?_|(refine hK _ _ ?_;clear hK K)|(refine ar ?_ ?_<;>intro hc<;>try exact jz)|refine cm (hrc) ?_|refine av ?_|exact jI|(clear hK K)))
  refine U8 _ _ (dO (k+1) jB (by show max a.calls.length b.calls.length-(k+1)<max a.calls.length b.calls.length-k;omega) (by rw[hA']) bS)
 have WO:k=max a.calls.length b.calls.length:=jB;subst WO;clear YT I';generalize oy a b (max a.calls.length b.calls.length)=M at*;have hol:(pQ a.aS b.aS).length<=2000:=by unfold pQ;rw[List.length_append,List.length_map,List.length_map,List.length_drop,List.length_drop];omega
 have hpr:=K5 M a.aS b.aS jB a2 b2 ha.out hb.out;have WB:(M++pQ a.aS b.aS).length<=1000000000:=by rw[List.length_append];omega
 generalize M++pQ a.aS b.aS=M1 at*;have hpu:=B7 M1 (⟨#[105,110,32]⟩:UX) (cA a.in_) (cA b.in_) jB (by show 3<=_;omega) jB jB;have Vf:(M1++lG (⟨#[105,110,32]⟩:UX) (cA a.in_) (cA b.in_)).length<=1000000001:=by have:=vz (⟨#[105,110,32]⟩:UX) (cA a.in_) (cA b.in_);rw[List.length_append];omega
 generalize M1++lG (⟨#[105,110,32]⟩:UX) (cA a.in_) (cA b.in_)=M2 at*;by_cases O':a.status≠b.status\/a.bs≠b.bs
 ·rw[if_pos O']at hR;subst hR;refine S ?_
  (repeat' (first|refine au fun K hK=>?_|refine aq ?_|(with_reducible refine gR 8 ?_);refine dC 8 ([0,1],[34,37],[38]) [] (bf 0 8) mixed ?_|(with_reducible refine gR 10 ?_);refine dC 10 ([],[57,60],[]) [] (bf 0 16) mixed ?_|(refine hK _ _ ?_;clear hK K)|(refine ar ?_ ?_<;>intro hc<;>try exact jz)|refine cm (hpr) ?_|refine cq (i1) ?_|refine cq (i2) ?_|(refine sH hpu ?_)|refine cq (s1) ?_|refine cq (s2) ?_|refine U6 _ _ ?_|refine av ?_|exact jI|(clear hK K)))
  refine iM [.tmp 4] ?_;refine dn.row (e:=9) _ rfl ?_ ?_
  ·(simp only[List.append_nil,List.map_append];try rfl)
  ·(simp only[List.append_nil,List.length_append];try rfl)
 ·rw[if_neg O',List.append_nil]at hR;subst hR;refine S ?_
  (repeat' (first|refine au fun K hK=>?_|refine aq ?_|(with_reducible refine gR 8 ?_);refine dC 8 ([0,1],[34,37],[38]) [] (bf 0 8) mixed ?_|(refine hK _ _ ?_;clear hK K)|(refine ar ?_ ?_<;>intro hc<;>try exact jz)|refine cm (hpr) ?_|refine cq (i1) ?_|refine cq (i2) ?_|(refine sH hpu ?_)|refine U6 _ _ ?_|refine av ?_|exact jI|(clear hK K)))
  refine iM [.tmp 4] ?_;exact dn.row (e:=9) M2 rfl rfl rfl
end Go.Proofs.YtjpcgmjaipfgdaaGreatDoor
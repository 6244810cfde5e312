/- Lemmas. No conditions. -/
import Derived.Test.YtjpcgmjaipfgdaaGreatDoorSo9
set_option linter.all false
namespace Go.Gd
open Go
def iI(op a:Int):ax:=⟨op,a,0,sE⟩
def bv(f:Int->Int->List ax)(from_:Int):TD->List ax->List ax
 |[],out=>out
 |x::l,out=>bv f from_ l (out++f x (from_+out.length))
def lh(s:TF):Int:=if s=(⟨#[38,38]⟩:TF)then 18 else if s=(⟨#[124,124]⟩:TF)then 19 else 7
def bo(p:af):Nat->Int->Int->List ax
 |0,_,_=>[]
 |n+1,a,from_=>
  let nd:=ak p a
  let x:=bo p n (nth nd.l 0) from_
  if nd.kind=1 then[iI 2 nd.n]
  else if nd.kind=2 then[iI 3 nd.n]
  else if nd.kind=3 then[⟨4,0,0,nd.name⟩]
  else if nd.kind=4 then[⟨5,nth p.slots a.toNat,nth p.types a.toNat,sE⟩]
  else if nd.kind=5 then x++[iI 11 (nth p.slots a.toNat)]
  else if nd.kind=6 then x++[iI 10 0]
  else if nd.kind=7 then x++[iI 8 0]
  else if nd.kind=8 then x++[iI 9 0]
  else if lh nd.name=7 then x++bo p n (nth nd.l 1) (from_+x.length)++[⟨7,0,0,nd.name⟩]
  else
   let y:=bo p n (nth nd.l 1) (from_+x.length+1)
   x++[iI (lh nd.name) (from_+x.length+1+y.length)]++y
def mw(p:af):Nat:=p.aa.nodes.length
def Bs(p:af)(a:Int):Int:=js bh.name (ak p a).name p.aa.av 0 (-1)
def cB(p:af)(n:Nat)(a from_:Int):List ax:=bv (bo p n) from_ (ak p a).l []++[⟨20,Bs p a,(ak p a).l.length,sE⟩]
def jO(p:af)(n:Nat)(a from_:Int):List ax:=
 if(ak p a).kind=19 then[iI 14 0]
 else if(ak p a).kind=20 then bo p n (nth (ak p a).l 0) from_++[iI 13 0]
 else if(ak p a).kind=21 then cB p n a from_
 else bo p n a from_
def rC(p:af)(n:Nat)(bl:Int->Int->List ax)(a from_:Int):List ax:=
 let nd:=ak p a
 let x:=bo p n (nth nd.l 0) from_
 let b:=bl (nth nd.l 1) (from_+x.length+1)
 if nd.kind=16 then x++[iI 17 (from_+x.length+1+(b.length+1))]++(b++[iI 16 (from_-1)])
 else if nd.l.length=3 then
  let c:=bl (nth nd.l 2) (from_+x.length+1+b.length+1)
  x++[iI 17 (from_+x.length+1+(b.length+1))]++(b++[iI 16 (from_+x.length+1+b.length+1+c.length)])++c
 else x++[iI 17 (from_+x.length+1+b.length)]++b
def gf(p:af):Nat->Int->Int->List ax
 |0,_,_=>[]
 |n+1,a,from_=>
  let nd:=ak p a
  let at_:=from_+1
  let x:=bo p n (nth nd.l 0) at_
  iI 1 a::(
   if nd.kind=10\/nd.kind=11 then jO p n (nth nd.l 0) at_++[iI 6 (nth p.slots a.toNat)]
   else if nd.kind=12 then x++bo p n (nth nd.l 1) (at_+x.length)++[iI 12 (nth p.slots a.toNat)]
   else if nd.kind=13 then cB p n (nth nd.l 0) at_++[iI 23 0]
   else if nd.kind=14 then x++[iI 15 0]
   else if nd.kind=17 then(if nd.l.length=0 then[iI 22 0]else x++[iI 21 0])
   else rC p n (fun b f=>bv (gf p n) f (ak p b).l []) a at_)
def qk(p:af)(n:Nat)(b from_:Int):List ax:=bv (gf p n) from_ (ak p b).l []
def BM(p:af)(c:aH)(f:bh):aH:=⟨c.ins++qk p (mw p) f.body c.ins.length++[iI 22 f.ret],c.entry++[(c.ins.length:Int)]⟩
def cf(p:af):aH:=p.aa.av.foldl (BM p) ⟨[],[]⟩
structure MC where
 fn:Int
 at_:Int
 mark:Int
 slots:List aj
 stack:List aj
 aS:Nat
 deriving Inhabited
structure MV where
 calls:List MC
 aS:Nat
 heap:List (List Int)
 in_:Int
 bz:List ByteArray
 status:Int
 cY:Int
 time:Int
namespace MC
def push(c:MC)(v:aj):MC:={ c with stack:=c.stack++[v],aS:=c.aS-1 }
def last(c:MC):aj:=nth c.stack (c.stack.length-1)
def cut(c:MC)(n:Nat):MC:={ c with stack:=c.stack.take (c.stack.length-n),aS:=c.aS+n }
def jump(c:MC)(a:Int):MC:={ c with at_:=a }
def back(c:MC):MC:={ c with at_:=c.mark,stack:=[],aS:=0 }
end MC
namespace MV
def ah(m:MV):MC:=nth m.calls (m.calls.length-1)
def ba(m:MV)(c:MC):MV:={ m with calls:=m.calls.set (m.calls.length-1) c }
def push(m:MV)(v:aj):MV:=m.ba (m.ah.push v)
def cut(m:MV)(n:Nat):MV:=m.ba (m.ah.cut n)
def stops(m:MV)(status cY:Int):MV:={ m.ba m.ah.back with status:=status,cY:=cY }
def dS(m:MV)(r:aj×Int):MV:=if r.2≠0 then m.stops 3 r.2 else m.push r.1
def pop(m:MV):MV:={ m with calls:=m.calls.take (m.calls.length-1),aS:=m.aS+1 }
def ends(m:MV)(v:aj):MV:=if m.calls.length<=1 then{ m.pop with status:=2 }else m.pop.push v
def EY(C:aH)(fn:Int):Int:=nth C.entry fn.toNat
def iE(p:af)(C:aH)(fn:Int)(args:List aj):MC:=⟨fn,EY C fn,EY C fn,args++List.replicate ((nth p.size fn.toNat)-args.length).toNat v0,[],0⟩
def cM(m:MV)(p:af)(C:aH)(fn:Int)(args:List aj):MV:={ m with calls:=m.calls++[iE p C fn args],aS:=m.aS-1 }
def bk(h:TC)(n:Int):TD:=if n<1\/(h.length:Int)<n then[]else nth h (n-1).toNat
def ins(m:MV)(p:af)(C:aH)(inp:TD)(x:ax):MV:=
 let c:=m.ah
 let l:=c.last
 let k:=(c.cut 1).last
 if x.op=2 then m.push (vI x.a)
 else if x.op=3 then m.push (vB (decide (x.a=1)))
 else if x.op=4 then m.push (vT x.s)
 else if x.op=5 then m.push (eR c.slots x.a x.b)
 else if x.op=6 then m.ba { c.cut 1 with slots:=c.slots.set x.a.toNat l }
 else if x.op=7 then(m.cut 2).dS (pV x.s k l)
 else if x.op=8 then(m.cut 1).push (mL (⟨#[45]⟩:TF) l)
 else if x.op=9 then(m.cut 1).push (mL (⟨#[33]⟩:TF) l)
 else if x.op=10 then(m.cut 1).push (vI (if l.ty=4 then((bk m.heap l.n).length:Int)else(l.s.size:Int)))
 else if x.op=11 then
  let L:=bk m.heap (eR c.slots x.a 4).n
  if l.n<0\/(L.length:Int)<=l.n then(m.cut 1).stops 3 2 else(m.cut 1).push (vI (nth L l.n.toNat))
 else if x.op=12 then
  let a:=(eR c.slots x.a 4).n
  if k.n<0\/((bk m.heap a).length:Int)<=k.n then(m.cut 2).stops 3 2
  else{ m.cut 2 with heap:=m.heap.set (a-1).toNat ((nth m.heap (a-1).toNat).set k.n.toNat l.n) }
 else if x.op=13 then
  if l.n<0\/16<l.n then(m.cut 1).stops 3 7
  else if 40<gi m.heap+l.n+1 then(m.cut 1).stops 3 4
  else{ (m.cut 1).push ⟨4,m.heap.length+1,sE⟩with heap:=m.heap++[List.replicate l.n.toNat 0] }
 else if x.op=14 then
  if(inp.length:Int)<=m.in_ then m.stops 1 0 else{ m.push (vI (nth inp m.in_.toNat))with in_:=m.in_+1 }
 else if x.op=15 then
  if 24<=m.bz.length then m.stops 3 5 else{ m.cut 1 with bz:=m.bz++[mC l] }
 else if x.op=16 then m.ba (c.jump x.a)
 else if x.op=17 then(if l.n=0 then m.ba ((c.cut 1).jump x.a)else m.cut 1)
 else if x.op=18\/x.op=19 then(if(l.n=1<->x.op=19)then m.ba (c.jump x.a)else m.cut 1)
 else if x.op=20 then
  let m1:=m.cut x.b.toNat
  if 8<=m.calls.length then m1.stops 3 3 else m1.cM p C x.a (c.stack.drop (c.stack.length-x.b.toNat))
 else if x.op=21 then(m.cut 1).ends l
 else if x.op=22 then m.ends (vZ x.a)
 else if x.op=23 then m.cut 1
 else m
def bn(m:MV)(C:aH):ax:=nth C.ins m.ah.at_.toNat
def one(m:MV)(p:af)(C:aH)(inp:TD):MV:=(m.ba (m.ah.jump (m.ah.at_+1))).ins p C inp (m.bn C)
structure fQ(m:MV)(p:af)(C:aH):Prop where
 calls:1<=m.calls.length
 nb:m.calls.length<=8
 a0:0<=m.ah.at_
 a1:m.ah.at_<C.ins.length
 one:(m.bn C).op=6\/(m.bn C).op=8\/(m.bn C).op=9\/(m.bn C).op=10\/(m.bn C).op=11\/(m.bn C).op=13\/(m.bn C).op=15\/(m.bn C).op=17\/(m.bn C).op=18\/(m.bn C).op=19\/(m.bn C).op=21\/(m.bn C).op=23->1<=m.ah.stack.length
 two:(m.bn C).op=7\/(m.bn C).op=12->2<=m.ah.stack.length
 slot:(m.bn C).op=5\/(m.bn C).op=6\/(m.bn C).op=11\/(m.bn C).op=12->0<=(m.bn C).a/\(m.bn C).a<m.ah.slots.length
 call:(m.bn C).op=20->0<=(m.bn C).b/\(m.bn C).b<=m.ah.stack.length/\(m.bn C).b<=3/\0<=(m.bn C).a/\(m.bn C).a<C.entry.length/\(m.bn C).a<p.size.length/\0<=nth p.size (m.bn C).a.toNat/\nth p.size (m.bn C).a.toNat<=24/\(m.bn C).b<=nth p.size (m.bn C).a.toNat
 op:1<=(m.bn C).op/\(m.bn C).op<=23
 word:(m.bn C).op=15->cn m.ah.last.n
 jX:∀v∈m.ah.stack,v.s.size<=40
 deep:m.ah.stack.length<=1000
end MV
def bI(C:List ax)(k:Nat)(c:List ax):Prop:=∃post,C.drop k=c++post
variable{C:List ax}
def bI.app{k:Nat}{a b:List ax}(h:bI C k (a++b)):bI C k a/\bI C (k+a.length) b:=by obtain⟨post,e⟩:=h;refine⟨⟨b++post,by rw[e,List.append_assoc]⟩,⟨post,?_⟩⟩;rw[<-List.drop_drop,e,List.append_assoc,List.drop_left]
def bI.head{k:Nat}{x:ax}{c:List ax}(h:bI C k (x::c)):k<C.length/\nth C k=x/\bI C (k+1) c:=by
 obtain⟨post,e⟩:=h;have hk:k<C.length:=Classical.byContradiction fun h=>by rw[List.drop_eq_nil_of_le jB]at e;cases e
 refine⟨hk,?_,⟨post,?_⟩⟩
 ·rw[List.drop_eq_getElem_cons hk]at e;rw[fJ hk];exact(List.cons.inj e).1
 ·rw[List.drop_eq_getElem_cons hk]at e;exact(List.cons.inj e).2
def bI.last{k:Nat}{x:ax}{c:List ax}(h:bI C k (c++[x])):bI C k c/\k+c.length<C.length/\nth C (k+c.length)=x:=
 ⟨h.app.1,h.app.2.head.1,h.app.2.head.2.1⟩
theorem vw(f:Int->Int->List ax):∀(L:TD) (k:Int) (out:List ax),bv f k L out=out++bv f (k+out.length) L []
 |[],k,out=>by simp[bv]
 |x::L,k,out=>by show bv f k L (out++f x (k+out.length))=out++bv f (k+out.length) L ([]++f x (k+out.length+(0:Nat)));rw[vw f L k,vw f L (k+out.length) _];simp only[List.nil_append,List.length_append,List.append_assoc,Int.natCast_add,Int.natCast_zero,Int.add_zero,Int.add_assoc]
theorem CB(f:Int->Int->List ax):∀(A B:TD) (k:Int) (out:List ax),bv f k (A++B) out=bv f k B (bv f k A out)
 |[],B,k,out=>rfl
 |x::A,B,k,out=>CB f A B k _
theorem Dp{f g:Int->Int->List ax}:∀(L:TD) (k:Int) (out:List ax),(∀x∈L,∀j,f x j=g x j)->bv f k L out=bv g k L out
 |[],_,_,_=>rfl
 |x::L,k,out,h=>by show bv f k L (out++f x _)=bv g k L (out++g x _);rw[h x jE,Dp L k _ fun y hy=>h y (by simp[hy])]
namespace MV
variable{M:MV}
def bp(h:1<=M.calls.length)(c:MC):(M.ba c).ah=c:=by show nth (M.calls.set _ c) ((M.calls.set _ c).length-1)=c;rw[List.length_set];exact(Go.Gd.dv _ _ _ _ jB).trans (if_pos rfl)
def dp(M:MV)(c d:MC):(M.ba c).ba d=M.ba d:=by show({ M with calls:=(M.calls.set _ c).set ((M.calls.set _ c).length-1) d }:MV)=_;rw[List.length_set,List.set_set];rfl
def bG(M:MV)(c:MC):(M.ba c).calls.length=M.calls.length:=by show(M.calls.set _ c).length=_;simp
def rh(M:MV)(h:1<=M.calls.length):M.ba M.ah=M:=by show({ M with calls:=M.calls.set (M.calls.length-1) (nth M.calls (M.calls.length-1)) }:MV)=M;rw[fJ jB,List.set_getElem_self]
def kf(M:MV)(c:MC):(M.ba c).heap=M.heap:=rfl
def iQ(M:MV)(c:MC)(s t:Int):MV:={ M.ba c.back with status:=s,cY:=t }
def dY(h:1<=M.calls.length)(c:MC)(s t:Int):(M.ba c).stops s t=M.iQ c s t:=by unfold stops iQ;rw[bp h,dp]
def fl(h:1<=M.calls.length)(c:MC)(v:aj):(M.ba c).push v=M.ba (c.push v):=by unfold push;rw[bp h,dp]
def da(h:1<=M.calls.length)(c:MC)(n:Nat):(M.ba c).cut n=M.ba (c.cut n):=by unfold cut;rw[bp h,dp]
end MV
section
variable (m:MV)(p:af)(C:aH)(inp:TD)(a b:Int)(s:TF)
def MV.rb:m.ins p C inp (iI 2 a)=m.push (vI a):=rfl
def MV.pz:m.ins p C inp (iI 3 a)=m.push (vB (decide (a=1))):=rfl
def MV.pm:m.ins p C inp ⟨4,a,b,s⟩=m.push (vT s):=rfl
def MV.pj:m.ins p C inp ⟨5,a,b,s⟩=m.push (eR m.ah.slots a b):=rfl
def MV.oy:m.ins p C inp (iI 6 a)=m.ba { m.ah.cut 1 with slots:=m.ah.slots.set a.toNat m.ah.last }:=rfl
def MV.rH:m.ins p C inp ⟨7,a,b,s⟩=(m.cut 2).dS (pV s (m.ah.cut 1).last m.ah.last):=rfl
def MV.rG:m.ins p C inp (iI 8 a)=(m.cut 1).push (mL (⟨#[45]⟩:TF) m.ah.last):=rfl
def MV.qU:m.ins p C inp (iI 9 a)=(m.cut 1).push (mL (⟨#[33]⟩:TF) m.ah.last):=rfl
def MV.iz:m.ins p C inp (iI 10 a)=(m.cut 1).push (vI (if m.ah.last.ty=4 then((bk m.heap m.ah.last.n).length:Int)else(m.ah.last.s.size:Int))):=rfl
def MV.nZ:m.ins p C inp (iI 11 a)=if m.ah.last.n<0\/((bk m.heap (eR m.ah.slots a 4).n).length:Int)<=m.ah.last.n then(m.cut 1).stops 3 2 else(m.cut 1).push (vI (nth (bk m.heap (eR m.ah.slots a 4).n) m.ah.last.n.toNat)):=rfl
def MV.qD:m.ins p C inp (iI 12 a)=if(m.ah.cut 1).last.n<0\/((bk m.heap (eR m.ah.slots a 4).n).length:Int)<=(m.ah.cut 1).last.n then(m.cut 2).stops 3 2
  else{ m.cut 2 with heap:=m.heap.set ((eR m.ah.slots a 4).n-1).toNat ((nth m.heap ((eR m.ah.slots a 4).n-1).toNat).set (m.ah.cut 1).last.n.toNat m.ah.last.n) }:=rfl
def MV.rz:m.ins p C inp (iI 13 a)=if m.ah.last.n<0\/16<m.ah.last.n then(m.cut 1).stops 3 7
  else if 40<gi m.heap+m.ah.last.n+1 then(m.cut 1).stops 3 4
  else{ (m.cut 1).push ⟨4,m.heap.length+1,sE⟩with heap:=m.heap++[List.replicate m.ah.last.n.toNat 0] }:=rfl
def MV.n8:m.ins p C inp (iI 14 a)=if(inp.length:Int)<=m.in_ then m.stops 1 0 else{ m.push (vI (nth inp m.in_.toNat))with in_:=m.in_+1 }:=rfl
def MV.oi:m.ins p C inp (iI 15 a)=if 24<=m.bz.length then m.stops 3 5 else{ m.cut 1 with bz:=m.bz++[mC m.ah.last] }:=rfl
def MV.lZ:m.ins p C inp (iI 16 a)=m.ba (m.ah.jump a):=rfl
def MV.oc:m.ins p C inp (iI 17 a)=if m.ah.last.n=0 then m.ba ((m.ah.cut 1).jump a)else m.cut 1:=rfl
def MV.rn:m.ins p C inp (iI 18 a)=if m.ah.last.n=1 then m.cut 1 else m.ba (m.ah.jump a):=by
 show(if(m.ah.last.n=1<->(18:Int)=19)then m.ba (m.ah.jump a)else m.cut 1)=_;by_cases h:m.ah.last.n=1
 ·rw[if_pos h,if_neg (fun e=>absurd (e.1 h) jC)]
 ·rw[if_neg h,if_pos ⟨fun e=>(h e).elim,fun e=>absurd e jC⟩]
def MV.uu:m.ins p C inp (iI 19 a)=if m.ah.last.n=1 then m.ba (m.ah.jump a)else m.cut 1:=by
 show(if(m.ah.last.n=1<->(19:Int)=19)then m.ba (m.ah.jump a)else m.cut 1)=_;by_cases h:m.ah.last.n=1
 ·rw[if_pos h,if_pos ⟨fun _=>rfl,fun _=>h⟩]
 ·rw[if_neg h,if_neg (fun e=>h (e.2 rfl))]
def MV.pM:m.ins p C inp ⟨20,a,b,s⟩=if 8<=m.calls.length then(m.cut b.toNat).stops 3 3 else(m.cut b.toNat).cM p C a (m.ah.stack.drop (m.ah.stack.length-b.toNat)):=rfl
def MV.rf:m.ins p C inp (iI 21 a)=(m.cut 1).ends m.ah.last:=rfl
def MV.qC:m.ins p C inp (iI 23 a)=m.cut 1:=rfl
end
inductive fA(p:af)(C:aH)(inp:List Int):Nat->MV->MV->Prop
 |refl (m:MV):fA p C inp 0 m m
 |step {n:Nat} {m m':MV} (h0:m.status=0) (h1:(m.bn C).op≠1) (hok:m.fQ p C) (h:fA p C inp n (m.one p C inp) m'):fA p C inp (n+1) m m'
def bf(p:af)(C:aH)(inp:TD)(m m':MV):Prop:=∃n,fA p C inp n m m'
theorem bf.refl{p:af}{C:aH}{inp:TD}(m:MV):bf p C inp m m:=⟨0,.refl m⟩
def fA.trans{p:af}{C:aH}{inp:TD}{n:Nat}{a b:MV}(h:fA p C inp n a b):∀{k c},fA p C inp k b c->fA p C inp (n+k) a c:=by
 induction h with
 |refl m=>intro k c hk;rw[Nat.zero_add];exact hk
 |step h0 h1 hok _ ih=>intro k c hk;rw[Nat.add_right_comm];exact .step h0 h1 hok (ih hk)
theorem bf.trans{p:af}{C:aH}{inp:TD}{a b c:MV}(h:bf p C inp a b)(k:bf p C inp b c):bf p C inp a c:=by obtain⟨n,h⟩:=h;obtain⟨m,k⟩:=k;exact⟨n+m,h.trans k⟩
theorem bf.ins{p:af}{C:aH}{inp:TD}{M m':MV}{c:MC}{k:Nat}{x:ax}(h1:1<=M.calls.length)(h8:M.calls.length<=8)(hs:M.status=0)(hk:c.at_=k)(O':k<C.ins.length)(hx:nth C.ins k=x)(Vt:x.op≠1)
  (hok:(M.ba c).fQ p C) (hg:bf p C inp ((M.ba { c with at_:=(k:Int)+1 }).ins p C inp x) m'):bf p C inp (M.ba c) m':=by
 obtain⟨n,hg⟩:=hg;have hi:(M.ba c).bn C=x:=by unfold MV.bn;rw[MV.bp h1,hk,Int.toNat_natCast,hx]
 refine⟨n+1,.step hs (by rw[hi];exact Vt) hok ?_⟩;unfold MV.one;rw[hi,MV.bp h1,MV.dp];unfold MC.jump;rw[hk];exact hg
def fQ.Ka{p:af}{C:aH}{M:MV}{c:MC}{k:Nat}{x:ax}(h1:1<=M.calls.length)(h8:M.calls.length<=8)(hk:c.at_=k)(O':k<C.ins.length)(hx:nth C.ins k=x)
  (one:x.op=6\/x.op=8\/x.op=9\/x.op=10\/x.op=11\/x.op=13\/x.op=15\/x.op=17\/x.op=18\/x.op=19\/x.op=21\/x.op=23->1<=c.stack.length)
  (two:x.op=7\/x.op=12->2<=c.stack.length)
  (slot:x.op=5\/x.op=6\/x.op=11\/x.op=12->0<=x.a/\x.a<c.slots.length)
  (call:x.op=20->0<=x.b/\x.b<=c.stack.length/\x.b<=3/\0<=x.a/\x.a<C.entry.length/\x.a<p.size.length/\0<=nth p.size x.a.toNat/\nth p.size x.a.toNat<=24/\x.b<=nth p.size x.a.toNat)
  (op:1<=x.op/\x.op<=23) (word:x.op=15->cn c.last.n) (jX:∀v∈c.stack,v.s.size<=40) (deep:c.stack.length<=1000):(M.ba c).fQ p C:=by
 have hi:(M.ba c).bn C=x:=by unfold MV.bn;rw[MV.bp h1,hk,Int.toNat_natCast,hx]
 have ht:=MV.bp h1 c;refine⟨by rw[MV.bG];exact h1,by rw[MV.bG];exact h8,by rw[ht,hk];omega,by rw[ht,hk];omega,?_,?_,?_,?_,?_,?_,?_,?_⟩
 ·rw[hi,ht];exact one
 ·rw[hi,ht];exact two
 ·rw[hi,ht];exact slot
 ·rw[hi,ht];exact call
 ·rw[hi];exact op
 ·rw[hi,ht];exact word
 ·rw[ht];exact jX
 ·rw[ht];exact deep
def Gi(p:af)(n:Nat)(k:Nat)(b:Int):List ax:=bv (gf p n) k (wq p b) []
structure tW(p:af)(C:aH):Prop where
 len:C.entry.length=p.aa.av.length
 at_:∀j,j<p.aa.av.length->∃k:Nat,nth C.entry j=(k:Int)/\bI C.ins k (Gi p (mw p) k (nth p.aa.av j).body++[iI 22 (nth p.aa.av j).ret])
 oS:C.ins.length<=1000000
def MV.dW(m:MV):MV:={ m.ba { m.ah with mark:=m.ah.at_,at_:=m.ah.at_+1 }with status:=0 }
def MV.dG(m:MV)(C:aH):Prop:=m.status≠0\/(m.bn C).op=1
def MV.fv(m:MV):MV:={ m with time:=if m.status=1 then m.time else m.time+1 }
def p4(p:af)(x:Int):bD:=⟨(ak p x).name,nth p.types (nth (ak p x).l 0).toNat,nth p.slots x.toNat⟩
def o7(w:Int->List bD->Option (List bD))(vars:List bD):TD->Option (List bD)
 |[]=>none
 |b::l=>(w b vars).or (o7 w vars l)
def lO(p:af)(x:Int)(vars:List bD):List bD:=if(ak p x).kind=10 then vars++[p4 p x]else vars
def pK(w:Int->List bD->Option (List bD))(p:af)(node:Int):TD->List bD->Option (List bD)
 |[],_=>none
 |x::l,vars=>
  if x=node then some vars
  else(if(ak p x).kind=15\/(ak p x).kind=16 then o7 w (lO p x vars) ((ak p x).l.drop 1)else none).or (pK w p node l (lO p x vars))
def lw(p:af)(node:Int):Nat->Int->List bD->Option (List bD)
 |0,_,_=>none
 |n+1,b,vars=>pK (lw p node n) p node (ak p b).l vars
def ko:List bK->Int->List bD
 |[],_=>[]
 |x::l,i=>⟨x.name,x.ty,i⟩::ko l (i+1)
def gS(p:af)(node:Int):List bD:=
 (lw p node p.aa.nodes.length (nth p.aa.av (nth p.fn node.toNat).toNat).body (ko (nth p.aa.av (nth p.fn node.toNat).toNat).params 0)).getD []
end Go.Gd
namespace Go.Gd.MV
open Go
def fa(c:MC)(v:aj)(st:List aj)(a:Int)(q:Nat):MC.last { c with at_:=a,stack:=st++[v],aS:=q }=v:=by show nth (st++[v]) ((st++[v]).length-1)=v;rw[List.length_append,List.length_singleton,Nat.add_sub_cancel];exact qh _ _
def fS(c:MC)(v:aj)(st:List aj)(a:Int)(q:Nat):MC.cut { c with at_:=a,stack:=st++[v],aS:=q } 1={ c with at_:=a,stack:=st,aS:=q+1 }:=by show MC.mk c.fn a c.mark c.slots ((st++[v]).take ((st++[v]).length-1)) (q+1)=_;rw[List.length_append,List.length_singleton,Nat.add_sub_cancel,List.take_left]
def ou(c:MC)(u v:aj)(st:List aj)(a:Int)(q:Nat):MC.cut { c with at_:=a,stack:=st++[u]++[v],aS:=q } 2={ c with at_:=a,stack:=st,aS:=q+2 }:=by show MC.mk c.fn a c.mark c.slots ((st++[u]++[v]).take ((st++[u]++[v]).length-2)) (q+2)=_;rw[List.append_assoc,List.length_append,show([u]++[v]).length=2 from rfl,Nat.add_sub_cancel,List.take_left]
end Go.Gd.MV
namespace Go.Proofs.YtjpcgmjaipfgdaaGreatDoor
open Go Go.Gd
def jd(p:af)(j:Nat)(a:Int):Prop:=kS p.aa j<=a.toNat/\a.toNat<=(nth p.aa.av j).body.toNat
variable{p:af}{a:Int}
def jd.aE(h:gk p){j:Nat}(hj:j<p.aa.av.length){b:Int}(hi:jd p j a)(hb:b∈(ak p a).l):jd p j b/\0<=b/\b.toNat<a.toNat/\b.toNat<p.aa.nodes.length:=by
 have UI:=oV h.ok.aa hj;have ha:a.toNat<p.aa.nodes.length:=by have:=hi.2;have:=UI.1;have:=UI.2;omega
 have h1:=(h.ok.aa.shape a.toNat ha).2.1 b hb;have hc:=(h.av j hj).chain;have h2:=hi.2;have h3:=hi.1;refine⟨⟨?_,jB⟩,h1.1,h1.2,jB⟩;by_cases e:a.toNat<(nth p.aa.av j).body.toNat
 ·exact hc.closed _ h3 e b hb
 ·have e:a.toNat=(nth p.aa.av j).body.toNat:=jB;have T5:b∈(nth p.aa.nodes a.toNat).l:=hb;rw[e]at T5;exact(hc.mem b T5).2.1
def Qn{α:Type}{P:α->Prop}{l:List α}{x:α}(h:∀v∈l,P v)(hx:P x):∀v∈l++[x],P v:=fun v hv=>by
 rcases List.mem_append.1 hv with hv|hv
 ·exact h v hv
 ·rw[List.mem_singleton.1 hv];exact hx
def lR(p:af)(n:Nat)(a k:Int):bo p (n+1) a k=(
  if(ak p a).kind=1 then[iI 2 (ak p a).n]
  else if(ak p a).kind=2 then[iI 3 (ak p a).n]
  else if(ak p a).kind=3 then[⟨4,0,0,(ak p a).name⟩]
  else if(ak p a).kind=4 then[⟨5,nth p.slots a.toNat,nth p.types a.toNat,sE⟩]
  else if(ak p a).kind=5 then bo p n (nth (ak p a).l 0) k++[iI 11 (nth p.slots a.toNat)]
  else if(ak p a).kind=6 then bo p n (nth (ak p a).l 0) k++[iI 10 0]
  else if(ak p a).kind=7 then bo p n (nth (ak p a).l 0) k++[iI 8 0]
  else if(ak p a).kind=8 then bo p n (nth (ak p a).l 0) k++[iI 9 0]
  else if lh (ak p a).name=7 then bo p n (nth (ak p a).l 0) k++bo p n (nth (ak p a).l 1) (k+(bo p n (nth (ak p a).l 0) k).length)++[⟨7,0,0,(ak p a).name⟩]
  else bo p n (nth (ak p a).l 0) k++[iI (lh (ak p a).name) (k+(bo p n (nth (ak p a).l 0) k).length+1+(bo p n (nth (ak p a).l 1) (k+(bo p n (nth (ak p a).l 0) k).length+1)).length)]++bo p n (nth (ak p a).l 1) (k+(bo p n (nth (ak p a).l 0) k).length+1)):=rfl
variable{n:Nat}{bl:Int->Int->List ax}
def HO{k:Int}(hk:(ak p a).kind=16):rC p n bl a k=bo p n (nth (ak p a).l 0) k++[iI 17 (k+(bo p n (nth (ak p a).l 0) k).length+1+((bl (nth (ak p a).l 1) (k+(bo p n (nth (ak p a).l 0) k).length+1)).length+1))]++(bl (nth (ak p a).l 1) (k+(bo p n (nth (ak p a).l 0) k).length+1)++[iI 16 (k-1)]):=by unfold rC;simp only;rw[if_pos hk]
def HY{k:Int}(hk:(ak p a).kind=15)(hl:(ak p a).l.length=3):rC p n bl a k=bo p n (nth (ak p a).l 0) k++[iI 17 (k+(bo p n (nth (ak p a).l 0) k).length+1+((bl (nth (ak p a).l 1) (k+(bo p n (nth (ak p a).l 0) k).length+1)).length+1))]++(bl (nth (ak p a).l 1) (k+(bo p n (nth (ak p a).l 0) k).length+1)++[iI 16 (k+(bo p n (nth (ak p a).l 0) k).length+1+(bl (nth (ak p a).l 1) (k+(bo p n (nth (ak p a).l 0) k).length+1)).length+1+(bl (nth (ak p a).l 2) (k+(bo p n (nth (ak p a).l 0) k).length+1+(bl (nth (ak p a).l 1) (k+(bo p n (nth (ak p a).l 0) k).length+1)).length+1)).length)])++bl (nth (ak p a).l 2) (k+(bo p n (nth (ak p a).l 0) k).length+1+(bl (nth (ak p a).l 1) (k+(bo p n (nth (ak p a).l 0) k).length+1)).length+1):=by unfold rC;simp only;rw[jN,if_pos hl]
def Hs{k:Int}(hk:(ak p a).kind=15)(hl:(ak p a).l.length≠3):rC p n bl a k=bo p n (nth (ak p a).l 0) k++[iI 17 (k+(bo p n (nth (ak p a).l 0) k).length+1+(bl (nth (ak p a).l 1) (k+(bo p n (nth (ak p a).l 0) k).length+1)).length)]++bl (nth (ak p a).l 1) (k+(bo p n (nth (ak p a).l 0) k).length+1):=by unfold rC;simp only;rw[jN,if_neg hl]
def MV.qF{m:MV}(h:2<=m.calls.length):m.pop.ah=nth m.calls (m.calls.length-1-1):=by show nth (m.calls.take (m.calls.length-1)) ((m.calls.take (m.calls.length-1)).length-1)=_;rw[List.length_take,show min (m.calls.length-1) m.calls.length=m.calls.length-1 from jB,gI _ _ _ jB]
def xS(p:af)(n:Nat)(a k:Int):gf p (n+1) a k=iI 1 a::(
  if(ak p a).kind=10\/(ak p a).kind=11 then jO p n (nth (ak p a).l 0) (k+1)++[iI 6 (nth p.slots a.toNat)]
  else if(ak p a).kind=12 then bo p n (nth (ak p a).l 0) (k+1)++bo p n (nth (ak p a).l 1) (k+1+(bo p n (nth (ak p a).l 0) (k+1)).length)++[iI 12 (nth p.slots a.toNat)]
  else if(ak p a).kind=13 then cB p n (nth (ak p a).l 0) (k+1)++[iI 23 0]
  else if(ak p a).kind=14 then bo p n (nth (ak p a).l 0) (k+1)++[iI 15 0]
  else if(ak p a).kind=17 then(if(ak p a).l.length=0 then[iI 22 0]else bo p n (nth (ak p a).l 0) (k+1)++[iI 21 0])
  else rC p n (fun b f=>bv (gf p n) f (ak p b).l []) a (k+1)):=rfl
def tq(p:af)(n:Nat)(a k:Int):jO p n a k=(if(ak p a).kind=19 then[iI 14 0]else if(ak p a).kind=20 then bo p n (nth (ak p a).l 0) k++[iI 13 0]else if(ak p a).kind=21 then cB p n a k else bo p n a k):=rfl
theorem ma{p:af}(ht:aQ p.aa):∀(n:Nat) (a k:Int) (lo:Nat),0<=a->a.toNat<p.aa.nodes.length->cQ (bX p.aa.nodes a)->aK p.aa.nodes lo (ak p a).l a.toNat->(bo p n a k).length+4*lo<=4*(a.toNat+1)
 |0,a,k,lo,h0,hl,hk,hc=>by have:=hc.le;show 0+_<=_;omega
 |n+1,a,k,lo,h0,hl,hk,hc=>by
  have Ts:=hc.le;have sh:=(ht.shape a.toNat hl).1;have Tv:cQ (ak p a).kind:=hk;unfold cQ at Tv;rw[lR];have one:∀x,(ak p a).l=[x]->cQ (bX p.aa.nodes x)->(bo p n (nth (ak p a).l 0) k).length+1+4*lo<=4*(a.toNat+1):=fun x u' hx=>by rw[u']at hc;obtain⟨c1,c2,c3,c4,c5⟩:=kn hc;have:=ma ht n x k lo c1 jB hx c5;rw[u'];show(bo p n x k).length+1+_<=_;omega
  have T6:(ak p a).kind=1\/(ak p a).kind=2\/(ak p a).kind=3\/(ak p a).kind=4\/(ak p a).kind=5\/(ak p a).kind=6\/(ak p a).kind=7\/(ak p a).kind=8\/(ak p a).kind=9:=jB;rcases T6 with e|e|e|e|e|e|e|e|e<;>simp only[e,Int.reduceEq,↓reduceIte,List.length_append,List.length_cons,List.length_nil]
  ·omega
  ·omega
  ·omega
  ·omega
  ·obtain⟨x,u',hx⟩:=sh.one (.inl e);have:=one x u' hx;omega
  ·obtain⟨x,u',hx⟩:=sh.one (by have e:(nth p.aa.nodes a.toNat).kind=6:=e;omega);have:=one x u' hx;omega
  ·obtain⟨x,u',hx⟩:=sh.one (by have e:(nth p.aa.nodes a.toNat).kind=7:=e;omega);have:=one x u' hx;omega
  ·obtain⟨x,u',hx⟩:=sh.one (by have e:(nth p.aa.nodes a.toNat).kind=8:=e;omega);have:=one x u' hx;omega
  ·obtain⟨x,y,u',hx,hy⟩:=sh.two (.inl e);have u':(ak p a).l=[x,y]:=u';rw[u']at hc;obtain⟨c1,c2,c3,c4,c5,c6⟩:=kD hc;obtain⟨d1,d2,d3,d4,d5⟩:=kn c6;have e1:=fun k=>ma ht n x k lo c1 jB hx c5
   have e2:=fun k=>ma ht n y k (x.toNat+1) d1 jB hy d5
   rw[u',show nth [x,y] 0=x from rfl,show nth [x,y] 1=y from rfl];split
   ·simp only[List.length_append,List.length_cons,List.length_nil];have:=e1 k;have:=e2 (k+(bo p n x k).length);omega
   ·simp only[List.length_append,List.length_cons,List.length_nil];have:=e1 k;have:=e2 (k+(bo p n x k).length+1);omega
theorem xo{p:af}{f:Int->Int->List ax}:∀(L:TD) (k:Int) (lo hi:Nat),aK p.aa.nodes lo L hi->(∀x∈L,∀k lo,aK p.aa.nodes lo (ak p x).l x.toNat->(f x k).length+4*lo<=4*(x.toNat+1))->(bv f k L []).length+4*lo<=4*hi
 |[],k,lo,hi,hc,h=>by cases hc;show 0+_<=_;omega
 |x::L,k,lo,hi,hc,h=>by
  show(bv f k L ([]++f x (k+((0:Nat):Int)))).length+_<=_;rw[vw,List.nil_append,List.length_append];obtain⟨c1,c2,c3,c4,c5,c6⟩:=kD hc;have h1:=h x jE (k+((0:Nat):Int)) lo c5;have h2:=xo L (k+(f x (k+((0:Nat):Int))).length) _ hi c6 fun y hy=>h y (by simp[hy])
  omega
def A7(ht:aQ p.aa)(n:Nat)(k:Int)(lo:Nat)(hl:a.toNat<p.aa.nodes.length)(hk:(ak p a).kind=21)(hc:aK p.aa.nodes lo (ak p a).l a.toNat):(cB p n a k).length+4*lo<=4*(a.toNat+1):=by
 have Xu:=ht.shape a.toNat hl;have:=xo (f:=bo p n) (ak p a).l k lo a.toNat hc fun x hx k lo Wz=>by have hb:=Xu.2.1 x hx;exact ma ht n x k lo hb.1 jB (Xu.1.call hk x hx) Wz
 unfold cB;rw[List.length_append,List.length_singleton];omega
def I9(ht:aQ p.aa)(n:Nat)(k:Int)(lo:Nat)(h0:0<=a)(hl:a.toNat<p.aa.nodes.length)(hk:fm (bX p.aa.nodes a))(hc:aK p.aa.nodes lo (ak p a).l a.toNat):(jO p n a k).length+4*lo<=4*(a.toNat+1):=by
 have Ts:=hc.le;rw[tq];split
 ·simp only[List.length_cons,List.length_nil];omega
 rename_i e19;split
 ·rename_i e;obtain⟨x,u',hx⟩:=(ht.shape a.toNat hl).1.one (by have e:(nth p.aa.nodes a.toNat).kind=20:=e;omega);have u':(ak p a).l=[x]:=u';rw[u']at hc;obtain⟨c1,c2,c3,c4,c5⟩:=kn hc;have:=ma ht n x k lo c1 jB hx c5;rw[u',List.length_append,List.length_singleton];show(bo p n x k).length+1+_<=_;omega
 rename_i e20;split
 ·rename_i e;exact A7 ht n k lo hl e hc
 ·rename_i e21;refine ma ht n a k lo h0 hl ?_ hc;rcases hk with hk|hk|hk|hk
  ·exact hk
  ·exact(e19 hk).elim
  ·exact(e20 hk).elim
  ·exact(e21 hk).elim
theorem CU{p:af}(ht:aQ p.aa):∀(n:Nat) (a k:Int) (lo:Nat),0<=a->a.toNat<p.aa.nodes.length->fu (bX p.aa.nodes a)->aK p.aa.nodes lo (ak p a).l a.toNat->(gf p n a k).length+4*lo<=4*(a.toNat+1)
 |0,a,k,lo,h0,hl,hk,hc=>by have:=hc.le;show 0+_<=_;omega
 |n+1,a,k,lo,h0,hl,hk,hc=>by
  have Ts:=hc.le;have sh:=(ht.shape a.toNat hl).1;have Tv:fu (ak p a).kind:=hk;unfold fu at Tv;rw[xS,List.length_cons];have blk:∀(b:Int) (lo:Nat) (k:Int),0<=b->b.toNat<p.aa.nodes.length->bX p.aa.nodes b=18->aK p.aa.nodes lo (ak p b).l b.toNat->(bv (gf p n) k (ak p b).l []).length+4*lo<=4*b.toNat:=fun b lo k b0 b1 b2 b3=>
   xo (ak p b).l k lo b.toNat b3 fun x hx k lo Wz=>by have hb:=(ht.shape b.toNat b1).2.1 x hx;exact CU ht n x k lo hb.1 jB ((ht.shape b.toNat b1).1.block b2 x hx) Wz
  split
  ·rename_i e;obtain⟨x,u',hx⟩:=sh.right e;have u':(ak p a).l=[x]:=u';rw[u']at hc;obtain⟨c1,c2,c3,c4,c5⟩:=kn hc;have:=I9 ht n (k+1) lo c1 jB hx c5;rw[u',List.length_append,List.length_singleton];show(jO p n x (k+1)).length+1+1+_<=_;omega
  split
  ·rename_i e;obtain⟨x,y,u',hx,hy⟩:=sh.two (.inr e);have u':(ak p a).l=[x,y]:=u';rw[u']at hc;obtain⟨c1,c2,c3,c4,c5,c6⟩:=kD hc;obtain⟨d1,d2,d3,d4,d5⟩:=kn c6;have e1:=ma ht n x (k+1) lo c1 jB hx c5;have e2:=ma ht n y (k+1+(bo p n x (k+1)).length) (x.toNat+1) d1 jB hy d5;rw[u',show nth [x,y] 0=x from rfl,show nth [x,y] 1=y from rfl];simp only[List.length_append,List.length_cons,List.length_nil];omega
  split
  ·rename_i e;obtain⟨x,u',hx⟩:=sh.sX e;have u':(ak p a).l=[x]:=u';rw[u']at hc;obtain⟨c1,c2,c3,c4,c5⟩:=kn hc;have:=A7 ht n (k+1) lo jB hx c5;rw[u',List.length_append,List.length_singleton];show(cB p n x (k+1)).length+1+1+_<=_;omega
  split
  ·rename_i e;obtain⟨x,u',hx⟩:=sh.one (by have e:(nth p.aa.nodes a.toNat).kind=14:=e;omega);have u':(ak p a).l=[x]:=u';rw[u']at hc;obtain⟨c1,c2,c3,c4,c5⟩:=kn hc;have:=ma ht n x (k+1) lo c1 jB hx c5;rw[u',List.length_append,List.length_singleton];show(bo p n x (k+1)).length+1+1+_<=_;omega
  split
  ·rename_i e;rcases sh.ret e with u'|⟨x,u',hx⟩
   ·have u':(ak p a).l=[]:=u';rw[u',if_pos (show([]:TD).length=0 from rfl)];simp only[List.length_cons,List.length_nil];omega
   ·have u':(ak p a).l=[x]:=u';rw[u']at hc;obtain⟨c1,c2,c3,c4,c5⟩:=kn hc;have:=ma ht n x (k+1) lo c1 jB hx c5;rw[u',if_neg jE,List.length_append,List.length_singleton];show(bo p n x (k+1)).length+1+1+_<=_;omega
  ·rename_i n1 n2 n3 n4 n5;by_cases k16:(ak p a).kind=16
   ·rw[HO k16];obtain⟨x,b,u',hx,hb⟩:=sh.dX k16;have u':(ak p a).l=[x,b]:=u';rw[u']at hc;obtain⟨c1,c2,c3,c4,c5,c6⟩:=kD hc;obtain⟨d1,d2,d3,d4,d5⟩:=kn c6;rw[u',show nth [x,b] 0=x from rfl,show nth [x,b] 1=b from rfl];have e1:=ma ht n x (k+1) lo c1 jB hx c5;have e2:=blk b (x.toNat+1) (k+1+(bo p n x (k+1)).length+1) d1 jB hb d5;simp only[List.length_append,List.length_cons,List.length_nil];omega
   have k15:(ak p a).kind=15:=jB;obtain⟨x,b,hx,hb,u'⟩:=sh.lC k15;rcases u' with u'|⟨d,u',hd⟩
   ·have u':(ak p a).l=[x,b]:=u';rw[Hs k15 (by rw[u'];simp)];rw[u']at hc;obtain⟨c1,c2,c3,c4,c5,c6⟩:=kD hc;obtain⟨d1,d2,d3,d4,d5⟩:=kn c6;rw[u',show nth [x,b] 0=x from rfl,show nth [x,b] 1=b from rfl];have e1:=ma ht n x (k+1) lo c1 jB hx c5;have e2:=blk b (x.toNat+1) (k+1+(bo p n x (k+1)).length+1) d1 jB hb d5;simp only[List.length_append,List.length_cons,List.length_nil];omega
   ·have u':(ak p a).l=[x,b,d]:=u';rw[HY k15 (by rw[u'];rfl)];rw[u']at hc;obtain⟨c1,c2,c3,c4,c5,c6⟩:=kD hc;obtain⟨d1,d2,d3,d4,d5,d6⟩:=kD c6;obtain⟨g1,g2,g3,g4,g5⟩:=kn d6;rw[u',show nth [x,b,d] 0=x from rfl,show nth [x,b,d] 1=b from rfl,show nth [x,b,d] 2=d from rfl];have e1:=ma ht n x (k+1) lo c1 jB hx c5;have e2:=blk b (x.toNat+1) (k+1+(bo p n x (k+1)).length+1) d1 jB hb d5;have e3:=blk d (b.toNat+1) (k+1+(bo p n x (k+1)).length+1+(bv (gf p n) (k+1+(bo p n x (k+1)).length+1) (ak p b).l []).length+1) g1 jB hd g5;simp only[List.length_append,List.length_cons,List.length_nil];omega
def eZ(p:af)(i:Nat):aH:=(p.aa.av.take i).foldl (BM p) ⟨[],[]⟩
def yA(p:af)(i:Nat)(h:i<p.aa.av.length):eZ p (i+1)=BM p (eZ p i) (nth p.aa.av i):=by unfold eZ;rw[Pg _ _ h,List.foldl_append];rfl
theorem y5(p:af):∀i,i<=p.aa.av.length->(eZ p i).entry.length=i
 |0,_=>rfl
 |i+1,h=>by rw[yA p i jB];show((eZ p i).entry++[_]).length=_;rw[List.length_append,y5 p i jB];rfl
theorem E6(p:af)(j:Nat):∀i,j<i->i<=p.aa.av.length->∃k:Nat,nth (eZ p i).entry j=(k:Int)/\bI (eZ p i).ins k (Gi p (mw p) k (nth p.aa.av j).body++[iI 22 (nth p.aa.av j).ret])
 |0,h,_=>by omega
 |i+1,h,hi=>by
  rw[yA p i jB];have hl:=y5 p i jB;by_cases e:j<i
  ·obtain⟨k,h1,post,h2⟩:=E6 p j i e jB;refine⟨k,?_,post++(qk p (mw p) (nth p.aa.av i).body (eZ p i).ins.length++[iI 22 (nth p.aa.av i).ret]),?_⟩
   ·show nth ((eZ p i).entry++[_]) j=_;rw[pJ jB];exact h1
   ·show((eZ p i).ins++_++_).drop k=_;have hk:k<=(eZ p i).ins.length:=Classical.byContradiction fun hk=>by
     rw[List.drop_eq_nil_of_le jB]at h2;have:=congrArg List.length h2;simp at this
    rw[List.append_assoc,List.drop_append_of_le_length hk,h2,List.append_assoc]
  ·have:j=i:=jB;subst this;refine⟨(eZ p j).ins.length,?_,[],?_⟩
   ·show nth ((eZ p j).entry++[((eZ p j).ins.length:Int)]) j=_;have:=qh (eZ p j).entry ((eZ p j).ins.length:Int);rw[hl]at this;exact this
   ·show((eZ p j).ins++qk p (mw p) (nth p.aa.av j).body (eZ p j).ins.length++[iI 22 (nth p.aa.av j).ret]).drop (eZ p j).ins.length=_;rw[List.append_assoc,List.drop_left,List.append_nil];rfl
theorem B0{p:af}(hs:gk p):∀i,i<=p.aa.av.length->(eZ p i).ins.length<=2000*i
 |0,_=>Nat.le_refl _
 |i+1,h=>by
  have ih:=B0 hs i jB;rw[yA p i jB];have UI:=oV hs.ok.aa (k:=i) jB;have hc:=(hs.av i jB).chain;have hm:=hs.ok.aa.many;have WT:=hs.ok.aa.body _ (fh (l:=p.aa.av) (k:=i) jB);have Xu:=hs.ok.aa.shape (nth p.aa.av i).body.toNat (by have:=UI.1;have:=UI.2;omega);have hb:=xo (p:=p) (f:=gf p (mw p)) (ak p (nth p.aa.av i).body).l (eZ p i).ins.length (kS p.aa i) (nth p.aa.av i).body.toNat hc fun x hx k lo Wz=>by have hb:=Xu.2.1 x hx;have:=UI.1;have:=UI.2;exact CU hs.ok.aa _ x k lo hb.1 jB (Xu.1.block WT x hx) Wz
  show((eZ p i).ins++qk p (mw p) (nth p.aa.av i).body (eZ p i).ins.length++[iI 22 (nth p.aa.av i).ret]).length<=_;rw[List.length_append,List.length_append,List.length_singleton];have:=UI.1;have:=UI.2;unfold qk;have:(nth p.aa.av i).body.toNat<=300:=jB;omega
def qy(hs:gk p):tW p (cf p):=by
 have e:cf p=eZ p p.aa.av.length:=by unfold cf eZ;rw[List.take_length]
 have hf:=hs.ok.aa.av;rw[e];exact⟨y5 p _ jl,fun j hj=>E6 p j _ hj jl,by have:=B0 hs _ (Nat.le_refl p.aa.av.length);omega⟩
def lQ(p:af)(C:aH):MV:=⟨[MV.iE p C (gQ p) []],0,[],0,[],0,0,0⟩
theorem GK:∀(l:List bK) (i:Int) (x:bK),ko (l++[x]) i=ko l i++[⟨x.name,x.ty,i+l.length⟩]
 |[],i,x=>by simp[ko]
 |y::l,i,x=>by
  have:=GK l (i+1) x;simp only[List.cons_append,ko,this,List.length_cons];congr 3
  simp only[bD.mk.injEq,true_and];omega
theorem xE:∀(l:List bK) (i:Int),(ko l i).length=l.length
 |[],i=>rfl
 |y::l,i=>by simp only[ko,List.length_cons,xE l (i+1)]
def yz(h:py p)(b:Int):(ak p b).l.length<=300:=by
 have hm:=h.aa.many;by_cases hb:b.toNat<p.aa.nodes.length
 ·obtain⟨lo,hc⟩:=(h.aa.shape b.toNat hb).2.2;have:=CW hc;show(nth p.aa.nodes b.toNat).l.length<=300;omega
 ·unfold ak nth;rw[List.getD_eq_getElem?_getD,List.getElem?_eq_none jB];exact Nat.zero_le _
end Go.Proofs.YtjpcgmjaipfgdaaGreatDoor
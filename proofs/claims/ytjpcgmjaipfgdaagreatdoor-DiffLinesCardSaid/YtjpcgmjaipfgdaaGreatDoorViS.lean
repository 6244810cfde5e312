/- Lemmas. No conditions. -/
import Derived.Test.YtjpcgmjaipfgdaaGreatDoorSo9
set_option linter.all false
namespace Go.Gd
open Go
def iI(op a:Int):ax:=⟨op,a,0,sE⟩
def bv(f:Int->Int->List ax)(from_:Int):UU->List ax->List ax
 |[],out=>out
 |x::l,out=>bv f from_ l (out++f x (from_+out.length))
def lM(s:UX):Int:=if s=(⟨#[38,38]⟩:UX)then 18 else if s=(⟨#[124,124]⟩:UX)then 19 else 7
def bg(p:ah):Nat->Int->Int->List ax
 |0,_,_=>[]
 |n+1,a,from_=>
  let nd:=ap p a
  let x:=bg p n (nth nd.l 0) from_
  if nd.kind=1 then[iI 2 nd.n]
  else if nd.kind=2 then[iI 3 nd.n]
  else if nd.kind=3 then[⟨4,0,0,nd.name⟩]
  else if nd.kind=4 then[⟨5,nth p.slots a.toNat,nth p.types a.toNat,sE⟩]
  else if nd.kind=5 then x++[iI 11 (nth p.slots a.toNat)]
  else if nd.kind=6 then x++[iI 10 0]
  else if nd.kind=7 then x++[iI 8 0]
  else if nd.kind=8 then x++[iI 9 0]
  else if lM nd.name=7 then x++bg p n (nth nd.l 1) (from_+x.length)++[⟨7,0,0,nd.name⟩]
  else
   let y:=bg p n (nth nd.l 1) (from_+x.length+1)
   x++[iI (lM nd.name) (from_+x.length+1+y.length)]++y
def ns(p:ah):Nat:=p.aa.nodes.length
def AJ(p:ah)(a:Int):Int:=jT aV.name (ap p a).name p.aa.ak 0 (-1)
def cz(p:ah)(n:Nat)(a from_:Int):List ax:=bv (bg p n) from_ (ap p a).l []++[⟨20,AJ p a,(ap p a).l.length,sE⟩]
def jS(p:ah)(n:Nat)(a from_:Int):List ax:=
 if(ap p a).kind=19 then[iI 14 0]
 else if(ap p a).kind=20 then bg p n (nth (ap p a).l 0) from_++[iI 13 0]
 else if(ap p a).kind=21 then cz p n a from_
 else bg p n a from_
def sn(p:ah)(n:Nat)(bl:Int->Int->List ax)(a from_:Int):List ax:=
 let nd:=ap p a
 let x:=bg p n (nth nd.l 0) from_
 let b:=bl (nth nd.l 1) (from_+x.length+1)
 if nd.kind=16 then x++[iI 17 (from_+x.length+1+(b.length+1))]++(b++[iI 16 (from_-1)])
 else if nd.l.length=3 then
  let c:=bl (nth nd.l 2) (from_+x.length+1+b.length+1)
  x++[iI 17 (from_+x.length+1+(b.length+1))]++(b++[iI 16 (from_+x.length+1+b.length+1+c.length)])++c
 else x++[iI 17 (from_+x.length+1+b.length)]++b
def gj(p:ah):Nat->Int->Int->List ax
 |0,_,_=>[]
 |n+1,a,from_=>
  let nd:=ap p a
  let at_:=from_+1
  let x:=bg p n (nth nd.l 0) at_
  iI 1 a::(
   if nd.kind=10\/nd.kind=11 then jS p n (nth nd.l 0) at_++[iI 6 (nth p.slots a.toNat)]
   else if nd.kind=12 then x++bg p n (nth nd.l 1) (at_+x.length)++[iI 12 (nth p.slots a.toNat)]
   else if nd.kind=13 then cz p n (nth nd.l 0) at_++[iI 23 0]
   else if nd.kind=14 then x++[iI 15 0]
   else if nd.kind=17 then(if nd.l.length=0 then[iI 22 0]else x++[iI 21 0])
   else sn p n (fun b f=>bv (gj p n) f (ap p b).l []) a at_)
def qS(p:ah)(n:Nat)(b from_:Int):List ax:=bv (gj p n) from_ (ap p b).l []
def DK(p:ah)(c:aE)(f:aV):aE:=⟨c.ins++qS p (ns p) f.body c.ins.length++[iI 22 f.ret],c.entry++[(c.ins.length:Int)]⟩
def dp(p:ah):aE:=p.aa.ak.foldl (DK p) ⟨[],[]⟩
structure MC where
 fn:Int
 at_:Int
 mark:Int
 slots:List aj
 stack:List aj
 aQ:Nat
 deriving Inhabited
structure MV where
 calls:List MC
 aQ:Nat
 heap:List (List Int)
 in_:Int
 aS:List ByteArray
 status:Int
 bs:Int
 time:Int
namespace MC
def push(c:MC)(v:aj):MC:={ c with stack:=c.stack++[v],aQ:=c.aQ-1 }
def last(c:MC):aj:=nth c.stack (c.stack.length-1)
def cut(c:MC)(n:Nat):MC:={ c with stack:=c.stack.take (c.stack.length-n),aQ:=c.aQ+n }
def jump(c:MC)(a:Int):MC:={ c with at_:=a }
def back(c:MC):MC:={ c with at_:=c.mark,stack:=[],aQ:=0 }
end MC
namespace MV
def ai(m:MV):MC:=nth m.calls (m.calls.length-1)
def aX(m:MV)(c:MC):MV:={ m with calls:=m.calls.set (m.calls.length-1) c }
def push(m:MV)(v:aj):MV:=m.aX (m.ai.push v)
def cut(m:MV)(n:Nat):MV:=m.aX (m.ai.cut n)
def stops(m:MV)(status bs:Int):MV:={ m.aX m.ai.back with status:=status,bs:=bs }
def eR(m:MV)(r:aj×Int):MV:=if r.2≠0 then m.stops 3 r.2 else m.push r.1
def pop(m:MV):MV:={ m with calls:=m.calls.take (m.calls.length-1),aQ:=m.aQ+1 }
def ends(m:MV)(v:aj):MV:=if m.calls.length<=1 then{ m.pop with status:=2 }else m.pop.push v
def KA(C:aE)(fn:Int):Int:=nth C.entry fn.toNat
def jO(p:ah)(C:aE)(fn:Int)(args:List aj):MC:=⟨fn,KA C fn,KA C fn,args++List.replicate ((nth p.size fn.toNat)-args.length).toNat v0,[],0⟩
def cB(m:MV)(p:ah)(C:aE)(fn:Int)(args:List aj):MV:={ m with calls:=m.calls++[jO p C fn args],aQ:=m.aQ-1 }
def bc(h:UT)(n:Int):UU:=if n<1\/(h.length:Int)<n then[]else nth h (n-1).toNat
def ins(m:MV)(p:ah)(C:aE)(inp:UU)(x:ax):MV:=
 let c:=m.ai
 let l:=c.last
 let k:=(c.cut 1).last
 if x.op=2 then m.push (vI x.a)
 else if x.op=3 then m.push (vB (decide (x.a=1)))
 else if x.op=4 then m.push (vT x.s)
 else if x.op=5 then m.push (dq c.slots x.a x.b)
 else if x.op=6 then m.aX { c.cut 1 with slots:=c.slots.set x.a.toNat l }
 else if x.op=7 then(m.cut 2).eR (qD x.s k l)
 else if x.op=8 then(m.cut 1).push (nj (⟨#[45]⟩:UX) l)
 else if x.op=9 then(m.cut 1).push (nj (⟨#[33]⟩:UX) l)
 else if x.op=10 then(m.cut 1).push (vI (if l.ty=4 then((bc m.heap l.n).length:Int)else(l.s.size:Int)))
 else if x.op=11 then
  let L:=bc m.heap (dq c.slots x.a 4).n
  if l.n<0\/(L.length:Int)<=l.n then(m.cut 1).stops 3 2 else(m.cut 1).push (vI (nth L l.n.toNat))
 else if x.op=12 then
  let a:=(dq c.slots x.a 4).n
  if k.n<0\/((bc m.heap a).length:Int)<=k.n then(m.cut 2).stops 3 2
  else{ m.cut 2 with heap:=m.heap.set (a-1).toNat ((nth m.heap (a-1).toNat).set k.n.toNat l.n) }
 else if x.op=13 then
  if l.n<0\/16<l.n then(m.cut 1).stops 3 7
  else if 40<gz m.heap+l.n+1 then(m.cut 1).stops 3 4
  else{ (m.cut 1).push ⟨4,m.heap.length+1,sE⟩with heap:=m.heap++[List.replicate l.n.toNat 0] }
 else if x.op=14 then
  if(inp.length:Int)<=m.in_ then m.stops 1 0 else{ m.push (vI (nth inp m.in_.toNat))with in_:=m.in_+1 }
 else if x.op=15 then
  if 24<=m.aS.length then m.stops 3 5 else{ m.cut 1 with aS:=m.aS++[lm l] }
 else if x.op=16 then m.aX (c.jump x.a)
 else if x.op=17 then(if l.n=0 then m.aX ((c.cut 1).jump x.a)else m.cut 1)
 else if x.op=18\/x.op=19 then(if(l.n=1<->x.op=19)then m.aX (c.jump x.a)else m.cut 1)
 else if x.op=20 then
  let m1:=m.cut x.b.toNat
  if 8<=m.calls.length then m1.stops 3 3 else m1.cB p C x.a (c.stack.drop (c.stack.length-x.b.toNat))
 else if x.op=21 then(m.cut 1).ends l
 else if x.op=22 then m.ends (vZ x.a)
 else if x.op=23 then m.cut 1
 else m
def bt(m:MV)(C:aE):ax:=nth C.ins m.ai.at_.toNat
def one(m:MV)(p:ah)(C:aE)(inp:UU):MV:=(m.aX (m.ai.jump (m.ai.at_+1))).ins p C inp (m.bt C)
structure fN(m:MV)(p:ah)(C:aE):Prop where
 calls:1<=m.calls.length
 nO:m.calls.length<=8
 a0:0<=m.ai.at_
 a1:m.ai.at_<C.ins.length
 one:(m.bt C).op=6\/(m.bt C).op=8\/(m.bt C).op=9\/(m.bt C).op=10\/(m.bt C).op=11\/(m.bt C).op=13\/(m.bt C).op=15\/(m.bt C).op=17\/(m.bt C).op=18\/(m.bt C).op=19\/(m.bt C).op=21\/(m.bt C).op=23->1<=m.ai.stack.length
 two:(m.bt C).op=7\/(m.bt C).op=12->2<=m.ai.stack.length
 slot:(m.bt C).op=5\/(m.bt C).op=6\/(m.bt C).op=11\/(m.bt C).op=12->0<=(m.bt C).a/\(m.bt C).a<m.ai.slots.length
 call:(m.bt C).op=20->0<=(m.bt C).b/\(m.bt C).b<=m.ai.stack.length/\(m.bt C).b<=3/\0<=(m.bt C).a/\(m.bt C).a<C.entry.length/\(m.bt C).a<p.size.length/\0<=nth p.size (m.bt C).a.toNat/\nth p.size (m.bt C).a.toNat<=24/\(m.bt C).b<=nth p.size (m.bt C).a.toNat
 op:1<=(m.bt C).op/\(m.bt C).op<=23
 word:(m.bt C).op=15->bG m.ai.last.n
 jo:∀v∈m.ai.stack,v.s.size<=40
 deep:m.ai.stack.length<=1000
end MV
def bJ(C:List ax)(k:Nat)(c:List ax):Prop:=∃post,C.drop k=c++post
variable{C:List ax}{k:Nat}
def bJ.app{a b:List ax}(h:bJ C k (a++b)):bJ C k a/\bJ C (k+a.length) b:=by obtain⟨post,e⟩:=h;refine⟨⟨b++post,by rw[e,List.append_assoc]⟩,⟨post,?_⟩⟩;rw[<-List.drop_drop,e,List.append_assoc,List.drop_left]
def bJ.head{x:ax}{c:List ax}(h:bJ C k (x::c)):k<C.length/\nth C k=x/\bJ C (k+1) c:=by
 obtain⟨post,e⟩:=h;have hk:k<C.length:=Classical.byContradiction fun h=>by rw[List.drop_eq_nil_of_le jB]at e;cases e
 refine⟨hk,?_,⟨post,?_⟩⟩
 ·rw[List.drop_eq_getElem_cons hk]at e;rw[ee hk];exact(List.cons.inj e).1
 ·rw[List.drop_eq_getElem_cons hk]at e;exact(List.cons.inj e).2
def bJ.last{x:ax}{c:List ax}(h:bJ C k (c++[x])):bJ C k c/\k+c.length<C.length/\nth C (k+c.length)=x:=
 ⟨h.app.1,h.app.2.head.1,h.app.2.head.2.1⟩
theorem wF(f:Int->Int->List ax):∀(L:UU) (k:Int) (out:List ax),bv f k L out=out++bv f (k+out.length) L []
 |[],k,out=>by simp[bv]
 |x::L,k,out=>by show bv f k L (out++f x (k+out.length))=out++bv f (k+out.length) L ([]++f x (k+out.length+(0:Nat)));rw[wF f L k,wF f L (k+out.length) _];simp only[List.nil_append,List.length_append,List.append_assoc,Int.natCast_add,Int.natCast_zero,Int.add_zero,Int.add_assoc]
theorem Cm(f:Int->Int->List ax):∀(A B:UU) (k:Int) (out:List ax),bv f k (A++B) out=bv f k B (bv f k A out)
 |[],B,k,out=>rfl
 |x::A,B,k,out=>Cm f A B k _
theorem IY{f g:Int->Int->List ax}:∀(L:UU) (k:Int) (out:List ax),(∀x∈L,∀j,f x j=g x j)->bv f k L out=bv g k L out
 |[],_,_,_=>rfl
 |x::L,k,out,h=>by show bv f k L (out++f x _)=bv g k L (out++g x _);rw[h x jE,IY L k _ fun y hy=>h y (by simp[hy])]
namespace MV
variable{M:MV}
def bn(h:1<=M.calls.length)(c:MC):(M.aX c).ai=c:=by show nth (M.calls.set _ c) ((M.calls.set _ c).length-1)=c;rw[List.length_set];exact(Go.Gd.dD _ _ _ _ jB).trans (if_pos rfl)
def dB(M:MV)(c d:MC):(M.aX c).aX d=M.aX d:=by show({ M with calls:=(M.calls.set _ c).set ((M.calls.set _ c).length-1) d }:MV)=_;rw[List.length_set,List.set_set];rfl
def bP(M:MV)(c:MC):(M.aX c).calls.length=M.calls.length:=by show(M.calls.set _ c).length=_;simp
def rM(M:MV)(h:1<=M.calls.length):M.aX M.ai=M:=by show({ M with calls:=M.calls.set (M.calls.length-1) (nth M.calls (M.calls.length-1)) }:MV)=M;rw[ee jB,List.set_getElem_self]
def kJ(M:MV)(c:MC):(M.aX c).heap=M.heap:=rfl
def jf(M:MV)(c:MC)(s t:Int):MV:={ M.aX c.back with status:=s,bs:=t }
def dZ(h:1<=M.calls.length)(c:MC)(s t:Int):(M.aX c).stops s t=M.jf c s t:=by unfold stops jf;rw[bn h,dB]
def fi(h:1<=M.calls.length)(c:MC)(v:aj):(M.aX c).push v=M.aX (c.push v):=by unfold push;rw[bn h,dB]
def cY(h:1<=M.calls.length)(c:MC)(n:Nat):(M.aX c).cut n=M.aX (c.cut n):=by unfold cut;rw[bn h,dB]
end MV
section
variable (m:MV)(p:ah)(C:aE)(inp:UU)(a b:Int)(s:UX)
def MV.rF:m.ins p C inp (iI 2 a)=m.push (vI a):=rfl
def MV.ql:m.ins p C inp (iI 3 a)=m.push (vB (decide (a=1))):=rfl
def MV.p4:m.ins p C inp ⟨4,a,b,s⟩=m.push (vT s):=rfl
def MV.qh:m.ins p C inp ⟨5,a,b,s⟩=m.push (dq m.ai.slots a b):=rfl
def MV.oW:m.ins p C inp (iI 6 a)=m.aX { m.ai.cut 1 with slots:=m.ai.slots.set a.toNat m.ai.last }:=rfl
def MV.sq:m.ins p C inp ⟨7,a,b,s⟩=(m.cut 2).eR (qD s (m.ai.cut 1).last m.ai.last):=rfl
def MV.rC:m.ins p C inp (iI 8 a)=(m.cut 1).push (nj (⟨#[45]⟩:UX) m.ai.last):=rfl
def MV.so:m.ins p C inp (iI 9 a)=(m.cut 1).push (nj (⟨#[33]⟩:UX) m.ai.last):=rfl
def MV.lZ:m.ins p C inp (iI 10 a)=(m.cut 1).push (vI (if m.ai.last.ty=4 then((bc m.heap m.ai.last.n).length:Int)else(m.ai.last.s.size:Int))):=rfl
def MV.o6:m.ins p C inp (iI 11 a)=if m.ai.last.n<0\/((bc m.heap (dq m.ai.slots a 4).n).length:Int)<=m.ai.last.n then(m.cut 1).stops 3 2 else(m.cut 1).push (vI (nth (bc m.heap (dq m.ai.slots a 4).n) m.ai.last.n.toNat)):=rfl
def MV.rN:m.ins p C inp (iI 12 a)=if(m.ai.cut 1).last.n<0\/((bc m.heap (dq m.ai.slots a 4).n).length:Int)<=(m.ai.cut 1).last.n then(m.cut 2).stops 3 2
  else{ m.cut 2 with heap:=m.heap.set ((dq m.ai.slots a 4).n-1).toNat ((nth m.heap ((dq m.ai.slots a 4).n-1).toNat).set (m.ai.cut 1).last.n.toNat m.ai.last.n) }:=rfl
def MV.rL:m.ins p C inp (iI 13 a)=if m.ai.last.n<0\/16<m.ai.last.n then(m.cut 1).stops 3 7
  else if 40<gz m.heap+m.ai.last.n+1 then(m.cut 1).stops 3 4
  else{ (m.cut 1).push ⟨4,m.heap.length+1,sE⟩with heap:=m.heap++[List.replicate m.ai.last.n.toNat 0] }:=rfl
def MV.o4:m.ins p C inp (iI 14 a)=if(inp.length:Int)<=m.in_ then m.stops 1 0 else{ m.push (vI (nth inp m.in_.toNat))with in_:=m.in_+1 }:=rfl
def MV.oL:m.ins p C inp (iI 15 a)=if 24<=m.aS.length then m.stops 3 5 else{ m.cut 1 with aS:=m.aS++[lm m.ai.last] }:=rfl
def MV.pZ:m.ins p C inp (iI 16 a)=m.aX (m.ai.jump a):=rfl
def MV.o0:m.ins p C inp (iI 17 a)=if m.ai.last.n=0 then m.aX ((m.ai.cut 1).jump a)else m.cut 1:=rfl
def MV.rG:m.ins p C inp (iI 18 a)=if m.ai.last.n=1 then m.cut 1 else m.aX (m.ai.jump a):=by
 show(if(m.ai.last.n=1<->(18:Int)=19)then m.aX (m.ai.jump a)else m.cut 1)=_;by_cases h:m.ai.last.n=1
 ·rw[if_pos h,if_neg (fun e=>absurd (e.1 h) jC)]
 ·rw[if_neg h,if_pos ⟨fun e=>(h e).elim,fun e=>absurd e jC⟩]
def MV.uK:m.ins p C inp (iI 19 a)=if m.ai.last.n=1 then m.aX (m.ai.jump a)else m.cut 1:=by
 show(if(m.ai.last.n=1<->(19:Int)=19)then m.aX (m.ai.jump a)else m.cut 1)=_;by_cases h:m.ai.last.n=1
 ·rw[if_pos h,if_pos ⟨fun _=>rfl,fun _=>h⟩]
 ·rw[if_neg h,if_neg (fun e=>h (e.2 rfl))]
def MV.qt:m.ins p C inp ⟨20,a,b,s⟩=if 8<=m.calls.length then(m.cut b.toNat).stops 3 3 else(m.cut b.toNat).cB p C a (m.ai.stack.drop (m.ai.stack.length-b.toNat)):=rfl
def MV.rY:m.ins p C inp (iI 21 a)=(m.cut 1).ends m.ai.last:=rfl
def MV.sx:m.ins p C inp (iI 23 a)=m.cut 1:=rfl
end
inductive fY(p:ah)(C:aE)(inp:List Int):Nat->MV->MV->Prop
 |refl (m:MV):fY p C inp 0 m m
 |step {n:Nat} {m m':MV} (h0:m.status=0) (h1:(m.bt C).op≠1) (hok:m.fN p C) (h:fY p C inp n (m.one p C inp) m'):fY p C inp (n+1) m m'
def bh(p:ah)(C:aE)(inp:UU)(m m':MV):Prop:=∃n,fY p C inp n m m'
theorem bh.refl{p:ah}{C:aE}{inp:UU}(m:MV):bh p C inp m m:=⟨0,.refl m⟩
def fY.trans{p:ah}{C:aE}{inp:UU}{n:Nat}{a b:MV}(h:fY p C inp n a b):∀{k c},fY p C inp k b c->fY p C inp (n+k) a c:=by
 induction h with
 |refl m=>intro k c hk;rw[Nat.zero_add];exact hk
 |step h0 h1 hok _ ih=>intro k c hk;rw[Nat.add_right_comm];exact .step h0 h1 hok (ih hk)
theorem bh.trans{p:ah}{C:aE}{inp:UU}{a b c:MV}(h:bh p C inp a b)(k:bh p C inp b c):bh p C inp a c:=by obtain⟨n,h⟩:=h;obtain⟨m,k⟩:=k;exact⟨n+m,h.trans k⟩
theorem bh.ins{p:ah}{C:aE}{inp:UU}{M m':MV}{c:MC}{k:Nat}{x:ax}(h1:1<=M.calls.length)(h8:M.calls.length<=8)(hs:M.status=0)(hk:c.at_=k)(I':k<C.ins.length)(hx:nth C.ins k=x)(WS:x.op≠1)
  (hok:(M.aX c).fN p C) (hg:bh p C inp ((M.aX { c with at_:=(k:Int)+1 }).ins p C inp x) m'):bh p C inp (M.aX c) m':=by
 obtain⟨n,hg⟩:=hg;have hi:(M.aX c).bt C=x:=by unfold MV.bt;rw[MV.bn h1,hk,Int.toNat_natCast,hx]
 refine⟨n+1,.step hs (by rw[hi];exact WS) hok ?_⟩;unfold MV.one;rw[hi,MV.bn h1,MV.dB];unfold MC.jump;rw[hk];exact hg
def fN.Og{p:ah}{C:aE}{M:MV}{c:MC}{x:ax}(h1:1<=M.calls.length)(h8:M.calls.length<=8)(hk:c.at_=k)(I':k<C.ins.length)(hx:nth C.ins k=x)
  (one:x.op=6\/x.op=8\/x.op=9\/x.op=10\/x.op=11\/x.op=13\/x.op=15\/x.op=17\/x.op=18\/x.op=19\/x.op=21\/x.op=23->1<=c.stack.length)
  (two:x.op=7\/x.op=12->2<=c.stack.length)
  (slot:x.op=5\/x.op=6\/x.op=11\/x.op=12->0<=x.a/\x.a<c.slots.length)
  (call:x.op=20->0<=x.b/\x.b<=c.stack.length/\x.b<=3/\0<=x.a/\x.a<C.entry.length/\x.a<p.size.length/\0<=nth p.size x.a.toNat/\nth p.size x.a.toNat<=24/\x.b<=nth p.size x.a.toNat)
  (op:1<=x.op/\x.op<=23) (word:x.op=15->bG c.last.n) (jo:∀v∈c.stack,v.s.size<=40) (deep:c.stack.length<=1000):(M.aX c).fN p C:=by
 have hi:(M.aX c).bt C=x:=by unfold MV.bt;rw[MV.bn h1,hk,Int.toNat_natCast,hx]
 have ht:=MV.bn h1 c;refine⟨by rw[MV.bP];exact h1,by rw[MV.bP];exact h8,by rw[ht,hk];omega,by rw[ht,hk];omega,?_,?_,?_,?_,?_,?_,?_,?_⟩
 ·rw[hi,ht];exact one
 ·rw[hi,ht];exact two
 ·rw[hi,ht];exact slot
 ·rw[hi,ht];exact call
 ·rw[hi];exact op
 ·rw[hi,ht];exact word
 ·rw[ht];exact jo
 ·rw[ht];exact deep
def Ed(p:ah)(n:Nat)(k:Nat)(b:Int):List ax:=bv (gj p n) k (wP p b) []
structure uz(p:ah)(C:aE):Prop where
 len:C.entry.length=p.aa.ak.length
 at_:∀j,j<p.aa.ak.length->∃k:Nat,nth C.entry j=(k:Int)/\bJ C.ins k (Ed p (ns p) k (nth p.aa.ak j).body++[iI 22 (nth p.aa.ak j).ret])
 pL:C.ins.length<=1000000
def MV.ir(m:MV):MV:={ m.aX { m.ai with mark:=m.ai.at_,at_:=m.ai.at_+1 }with status:=0 }
def MV.gy(m:MV)(C:aE):Prop:=m.status≠0\/(m.bt C).op=1
def MV.gh(m:MV):MV:={ m with time:=if m.status=1 then m.time else m.time+1 }
def pz(p:ah)(x:Int):ba:=⟨(ap p x).name,nth p.types (nth (ap p x).l 0).toNat,nth p.slots x.toNat⟩
def ld(w:Int->List ba->Option (List ba))(vars:List ba):UU->Option (List ba)
 |[]=>none
 |b::l=>(w b vars).or (ld w vars l)
def iC(p:ah)(x:Int)(vars:List ba):List ba:=if(ap p x).kind=10 then vars++[pz p x]else vars
def mV(w:Int->List ba->Option (List ba))(p:ah)(node:Int):UU->List ba->Option (List ba)
 |[],_=>none
 |x::l,vars=>
  if x=node then some vars
  else(if(ap p x).kind=15\/(ap p x).kind=16 then ld w (iC p x vars) ((ap p x).l.drop 1)else none).or (mV w p node l (iC p x vars))
def gv(p:ah)(node:Int):Nat->Int->List ba->Option (List ba)
 |0,_,_=>none
 |n+1,b,vars=>mV (gv p node n) p node (ap p b).l vars
def iw:List bp->Int->List ba
 |[],_=>[]
 |x::l,i=>⟨x.name,x.ty,i⟩::iw l (i+1)
def dV(p:ah)(node:Int):List ba:=
 (gv p node p.aa.nodes.length (nth p.aa.ak (nth p.fn node.toNat).toNat).body (iw (nth p.aa.ak (nth p.fn node.toNat).toNat).params 0)).getD []
def tC(v:aj):UX:=if v.ty=3 then(⟨#[34]⟩:UX)++v.s++(⟨#[34]⟩:UX)else lm v
def ii(n:Int):UU->Int->Int
 |[],_=>-1
 |v::l,i=>if v=n then i else ii n l (i+1)
def sK(l:UU)(n:Int):UU:=if ii n l 0<0 then l++[n]else l
def rf:UU->Bool->UX->UX
 |[],_,t=>t
 |x::l,b,t=>rf l true ((if b=true then t++(⟨#[44]⟩:UX)else t)++cA x)
def uM(seen:UU)(n:Int)(l:UU):UX:=rf l false ((⟨#[35]⟩:UX)++cA (ii n seen 0+1)++(⟨#[91]⟩:UX))++(⟨#[93]⟩:UX)
def lw(heap:UT)(seen:UU)(v:aj):UX×UU:=
 if v.ty=4 then
  (if 1<=v.n/\v.n<=heap.length then(uM (sK seen v.n) v.n (nth heap (v.n-1).toNat),sK seen v.n)else((⟨#[35,48,91,93]⟩:UX),seen))
 else(tC v,seen)
def tY(heap:UT)(slots:List aj)(a:List aG×UU)(x:ba):List aG×UU:=
 (a.1++[⟨x.name,(lw heap a.2 (dq slots x.slot x.ty)).1⟩],(lw heap a.2 (dq slots x.slot x.ty)).2)
def jK(heap:UT)(slots:List aj)(l:List ba)(seen:UU):List aG×UU:=l.foldl (tY heap slots) ([],seen)
def tq(p:ah)(heap:UT)(a:List gH×UU)(c:fh):List gH×UU:=
 (a.1++[⟨(nth p.aa.ak c.fn.toNat).name,(ap p c.node).bA,(jK heap c.slots (dV p c.node) a.2).1⟩],(jK heap c.slots (dV p c.node) a.2).2)
def pm(p:ah)(heap:UT)(l:List fh):List gH×UU:=l.foldl (tq p heap) ([],[])
def k7(p:ah)(s:gM):cw:=⟨(pm p s.heap s.calls).1,s.aS,s.in_,s.status,s.bs⟩
end Go.Gd
namespace Go.Gd.MV
open Go
def eZ(c:MC)(v:aj)(st:List aj)(a:Int)(q:Nat):MC.last { c with at_:=a,stack:=st++[v],aQ:=q }=v:=by show nth (st++[v]) ((st++[v]).length-1)=v;rw[List.length_append,List.length_singleton,Nat.add_sub_cancel];exact qM _ _
def fK(c:MC)(v:aj)(st:List aj)(a:Int)(q:Nat):MC.cut { c with at_:=a,stack:=st++[v],aQ:=q } 1={ c with at_:=a,stack:=st,aQ:=q+1 }:=by show MC.mk c.fn a c.mark c.slots ((st++[v]).take ((st++[v]).length-1)) (q+1)=_;rw[List.length_append,List.length_singleton,Nat.add_sub_cancel,List.take_left]
def o8(c:MC)(u v:aj)(st:List aj)(a:Int)(q:Nat):MC.cut { c with at_:=a,stack:=st++[u]++[v],aQ:=q } 2={ c with at_:=a,stack:=st,aQ:=q+2 }:=by show MC.mk c.fn a c.mark c.slots ((st++[u]++[v]).take ((st++[u]++[v]).length-2)) (q+2)=_;rw[List.append_assoc,List.length_append,show([u]++[v]).length=2 from rfl,Nat.add_sub_cancel,List.take_left]
end Go.Gd.MV
namespace Go.Proofs.YtjpcgmjaipfgdaaGreatDoor
open Go Go.Gd
def jL(p:ah)(j:Nat)(a:Int):Prop:=kW p.aa j<=a.toNat/\a.toNat<=(nth p.aa.ak j).body.toNat
variable{p:ah}{a:Int}
def jL.aC(h:gF p){j:Nat}(hj:j<p.aa.ak.length){b:Int}(hi:jL p j a)(hb:b∈(ap p a).l):jL p j b/\0<=b/\b.toNat<a.toNat/\b.toNat<p.aa.nodes.length:=by
 have Wa:=ou h.ok.aa hj;have ha:a.toNat<p.aa.nodes.length:=by have:=hi.2;have:=Wa.1;have:=Wa.2;omega
 have h1:=(h.ok.aa.shape a.toNat ha).2.1 b hb;have hc:=(h.ak j hj).chain;have h2:=hi.2;have h3:=hi.1;refine⟨⟨?_,jB⟩,h1.1,h1.2,jB⟩;by_cases e:a.toNat<(nth p.aa.ak j).body.toNat
 ·exact hc.closed _ h3 e b hb
 ·have e:a.toNat=(nth p.aa.ak j).body.toNat:=jB;have VM:b∈(nth p.aa.nodes a.toNat).l:=hb;rw[e]at VM;exact(hc.mem b VM).2.1
def RX{α:Type}{P:α->Prop}{l:List α}{x:α}(h:∀v∈l,P v)(hx:P x):∀v∈l++[x],P v:=fun v hv=>by
 rcases List.mem_append.1 hv with hv|hv
 ·exact h v hv
 ·rw[List.mem_singleton.1 hv];exact hx
def mB(p:ah)(n:Nat)(a k:Int):bg p (n+1) a k=(
  if(ap p a).kind=1 then[iI 2 (ap p a).n]
  else if(ap p a).kind=2 then[iI 3 (ap p a).n]
  else if(ap p a).kind=3 then[⟨4,0,0,(ap p a).name⟩]
  else if(ap p a).kind=4 then[⟨5,nth p.slots a.toNat,nth p.types a.toNat,sE⟩]
  else if(ap p a).kind=5 then bg p n (nth (ap p a).l 0) k++[iI 11 (nth p.slots a.toNat)]
  else if(ap p a).kind=6 then bg p n (nth (ap p a).l 0) k++[iI 10 0]
  else if(ap p a).kind=7 then bg p n (nth (ap p a).l 0) k++[iI 8 0]
  else if(ap p a).kind=8 then bg p n (nth (ap p a).l 0) k++[iI 9 0]
  else if lM (ap p a).name=7 then bg p n (nth (ap p a).l 0) k++bg p n (nth (ap p a).l 1) (k+(bg p n (nth (ap p a).l 0) k).length)++[⟨7,0,0,(ap p a).name⟩]
  else bg p n (nth (ap p a).l 0) k++[iI (lM (ap p a).name) (k+(bg p n (nth (ap p a).l 0) k).length+1+(bg p n (nth (ap p a).l 1) (k+(bg p n (nth (ap p a).l 0) k).length+1)).length)]++bg p n (nth (ap p a).l 1) (k+(bg p n (nth (ap p a).l 0) k).length+1)):=rfl
variable{n:Nat}{bl:Int->Int->List ax}{k:Int}
def Hr(hk:(ap p a).kind=16):sn p n bl a k=bg p n (nth (ap p a).l 0) k++[iI 17 (k+(bg p n (nth (ap p a).l 0) k).length+1+((bl (nth (ap p a).l 1) (k+(bg p n (nth (ap p a).l 0) k).length+1)).length+1))]++(bl (nth (ap p a).l 1) (k+(bg p n (nth (ap p a).l 0) k).length+1)++[iI 16 (k-1)]):=by unfold sn;simp only;rw[if_pos hk]
def Iu(hk:(ap p a).kind=15)(hl:(ap p a).l.length=3):sn p n bl a k=bg p n (nth (ap p a).l 0) k++[iI 17 (k+(bg p n (nth (ap p a).l 0) k).length+1+((bl (nth (ap p a).l 1) (k+(bg p n (nth (ap p a).l 0) k).length+1)).length+1))]++(bl (nth (ap p a).l 1) (k+(bg p n (nth (ap p a).l 0) k).length+1)++[iI 16 (k+(bg p n (nth (ap p a).l 0) k).length+1+(bl (nth (ap p a).l 1) (k+(bg p n (nth (ap p a).l 0) k).length+1)).length+1+(bl (nth (ap p a).l 2) (k+(bg p n (nth (ap p a).l 0) k).length+1+(bl (nth (ap p a).l 1) (k+(bg p n (nth (ap p a).l 0) k).length+1)).length+1)).length)])++bl (nth (ap p a).l 2) (k+(bg p n (nth (ap p a).l 0) k).length+1+(bl (nth (ap p a).l 1) (k+(bg p n (nth (ap p a).l 0) k).length+1)).length+1):=by unfold sn;simp only;rw[jN,if_pos hl]
def GG(hk:(ap p a).kind=15)(hl:(ap p a).l.length≠3):sn p n bl a k=bg p n (nth (ap p a).l 0) k++[iI 17 (k+(bg p n (nth (ap p a).l 0) k).length+1+(bl (nth (ap p a).l 1) (k+(bg p n (nth (ap p a).l 0) k).length+1)).length)]++bl (nth (ap p a).l 1) (k+(bg p n (nth (ap p a).l 0) k).length+1):=by unfold sn;simp only;rw[jN,if_neg hl]
def MV.ra{m:MV}(h:2<=m.calls.length):m.pop.ai=nth m.calls (m.calls.length-1-1):=by show nth (m.calls.take (m.calls.length-1)) ((m.calls.take (m.calls.length-1)).length-1)=_;rw[List.length_take,show min (m.calls.length-1) m.calls.length=m.calls.length-1 from jB,gN _ _ _ jB]
def zw(p:ah)(n:Nat)(a k:Int):gj p (n+1) a k=iI 1 a::(
  if(ap p a).kind=10\/(ap p a).kind=11 then jS p n (nth (ap p a).l 0) (k+1)++[iI 6 (nth p.slots a.toNat)]
  else if(ap p a).kind=12 then bg p n (nth (ap p a).l 0) (k+1)++bg p n (nth (ap p a).l 1) (k+1+(bg p n (nth (ap p a).l 0) (k+1)).length)++[iI 12 (nth p.slots a.toNat)]
  else if(ap p a).kind=13 then cz p n (nth (ap p a).l 0) (k+1)++[iI 23 0]
  else if(ap p a).kind=14 then bg p n (nth (ap p a).l 0) (k+1)++[iI 15 0]
  else if(ap p a).kind=17 then(if(ap p a).l.length=0 then[iI 22 0]else bg p n (nth (ap p a).l 0) (k+1)++[iI 21 0])
  else sn p n (fun b f=>bv (gj p n) f (ap p b).l []) a (k+1)):=rfl
def uP(p:ah)(n:Nat)(a k:Int):jS p n a k=(if(ap p a).kind=19 then[iI 14 0]else if(ap p a).kind=20 then bg p n (nth (ap p a).l 0) k++[iI 13 0]else if(ap p a).kind=21 then cz p n a k else bg p n a k):=rfl
theorem mS{p:ah}(ht:aM p.aa):∀(n:Nat) (a k:Int) (lo:Nat),0<=a->a.toNat<p.aa.nodes.length->cF (bT p.aa.nodes a)->aI p.aa.nodes lo (ap p a).l a.toNat->(bg p n a k).length+4*lo<=4*(a.toNat+1)
 |0,a,k,lo,h0,hl,hk,hc=>by have:=hc.le;show 0+_<=_;omega
 |n+1,a,k,lo,h0,hl,hk,hc=>by
  have Vj:=hc.le;have sh:=(ht.shape a.toNat hl).1;have Vn:cF (ap p a).kind:=hk;unfold cF at Vn;rw[mB];have one:∀x,(ap p a).l=[x]->cF (bT p.aa.nodes x)->(bg p n (nth (ap p a).l 0) k).length+1+4*lo<=4*(a.toNat+1):=fun x u' hx=>by rw[u']at hc;obtain⟨c1,c2,c3,c4,c5⟩:=kQ hc;have:=mS ht n x k lo c1 jB hx c5;rw[u'];show(bg p n x k).length+1+_<=_;omega
  have VH:(ap p a).kind=1\/(ap p a).kind=2\/(ap p a).kind=3\/(ap p a).kind=4\/(ap p a).kind=5\/(ap p a).kind=6\/(ap p a).kind=7\/(ap p a).kind=8\/(ap p a).kind=9:=jB;rcases VH with e|e|e|e|e|e|e|e|e<;>simp only[e,Int.reduceEq,↓reduceIte,List.length_append,List.length_cons,List.length_nil]
  ·omega
  ·omega
  ·omega
  ·omega
  ·obtain⟨x,u',hx⟩:=sh.one (.inl e);have:=one x u' hx;omega
  ·obtain⟨x,u',hx⟩:=sh.one (by have e:(nth p.aa.nodes a.toNat).kind=6:=e;omega);have:=one x u' hx;omega
  ·obtain⟨x,u',hx⟩:=sh.one (by have e:(nth p.aa.nodes a.toNat).kind=7:=e;omega);have:=one x u' hx;omega
  ·obtain⟨x,u',hx⟩:=sh.one (by have e:(nth p.aa.nodes a.toNat).kind=8:=e;omega);have:=one x u' hx;omega
  ·obtain⟨x,y,u',hx,hy⟩:=sh.two (.inl e);have u':(ap p a).l=[x,y]:=u';rw[u']at hc;obtain⟨c1,c2,c3,c4,c5,c6⟩:=kV hc;obtain⟨d1,d2,d3,d4,d5⟩:=kQ c6;have e1:=fun k=>mS ht n x k lo c1 jB hx c5
   have e2:=fun k=>mS ht n y k (x.toNat+1) d1 jB hy d5
   rw[u',show nth [x,y] 0=x from rfl,show nth [x,y] 1=y from rfl];split
   ·simp only[List.length_append,List.length_cons,List.length_nil];have:=e1 k;have:=e2 (k+(bg p n x k).length);omega
   ·simp only[List.length_append,List.length_cons,List.length_nil];have:=e1 k;have:=e2 (k+(bg p n x k).length+1);omega
theorem xv{p:ah}{f:Int->Int->List ax}:∀(L:UU) (k:Int) (lo hi:Nat),aI p.aa.nodes lo L hi->(∀x∈L,∀k lo,aI p.aa.nodes lo (ap p x).l x.toNat->(f x k).length+4*lo<=4*(x.toNat+1))->(bv f k L []).length+4*lo<=4*hi
 |[],k,lo,hi,hc,h=>by cases hc;show 0+_<=_;omega
 |x::L,k,lo,hi,hc,h=>by
  show(bv f k L ([]++f x (k+((0:Nat):Int)))).length+_<=_;rw[wF,List.nil_append,List.length_append];obtain⟨c1,c2,c3,c4,c5,c6⟩:=kV hc;have h1:=h x jE (k+((0:Nat):Int)) lo c5;have h2:=xv L (k+(f x (k+((0:Nat):Int))).length) _ hi c6 fun y hy=>h y (by simp[hy])
  omega
def AK(ht:aM p.aa)(n:Nat)(k:Int)(lo:Nat)(hl:a.toNat<p.aa.nodes.length)(hk:(ap p a).kind=21)(hc:aI p.aa.nodes lo (ap p a).l a.toNat):(cz p n a k).length+4*lo<=4*(a.toNat+1):=by
 have Y2:=ht.shape a.toNat hl;have:=xv (f:=bg p n) (ap p a).l k lo a.toNat hc fun x hx k lo Yf=>by have hb:=Y2.2.1 x hx;exact mS ht n x k lo hb.1 jB (Y2.1.call hk x hx) Yf
 unfold cz;rw[List.length_append,List.length_singleton];omega
def EV(ht:aM p.aa)(n:Nat)(k:Int)(lo:Nat)(h0:0<=a)(hl:a.toNat<p.aa.nodes.length)(hk:fk (bT p.aa.nodes a))(hc:aI p.aa.nodes lo (ap p a).l a.toNat):(jS p n a k).length+4*lo<=4*(a.toNat+1):=by
 have Vj:=hc.le;rw[uP];split
 ·simp only[List.length_cons,List.length_nil];omega
 rename_i e19;split
 ·rename_i e;obtain⟨x,u',hx⟩:=(ht.shape a.toNat hl).1.one (by have e:(nth p.aa.nodes a.toNat).kind=20:=e;omega);have u':(ap p a).l=[x]:=u';rw[u']at hc;obtain⟨c1,c2,c3,c4,c5⟩:=kQ hc;have:=mS ht n x k lo c1 jB hx c5;rw[u',List.length_append,List.length_singleton];show(bg p n x k).length+1+_<=_;omega
 rename_i e20;split
 ·rename_i e;exact AK ht n k lo hl e hc
 ·rename_i e21;refine mS ht n a k lo h0 hl ?_ hc;rcases hk with hk|hk|hk|hk
  ·exact hk
  ·exact(e19 hk).elim
  ·exact(e20 hk).elim
  ·exact(e21 hk).elim
theorem Bp{p:ah}(ht:aM p.aa):∀(n:Nat) (a k:Int) (lo:Nat),0<=a->a.toNat<p.aa.nodes.length->fu (bT p.aa.nodes a)->aI p.aa.nodes lo (ap p a).l a.toNat->(gj p n a k).length+4*lo<=4*(a.toNat+1)
 |0,a,k,lo,h0,hl,hk,hc=>by have:=hc.le;show 0+_<=_;omega
 |n+1,a,k,lo,h0,hl,hk,hc=>by
  have Vj:=hc.le;have sh:=(ht.shape a.toNat hl).1;have Vn:fu (ap p a).kind:=hk;unfold fu at Vn;rw[zw,List.length_cons];have blk:∀(b:Int) (lo:Nat) (k:Int),0<=b->b.toNat<p.aa.nodes.length->bT p.aa.nodes b=18->aI p.aa.nodes lo (ap p b).l b.toNat->(bv (gj p n) k (ap p b).l []).length+4*lo<=4*b.toNat:=fun b lo k b0 b1 b2 b3=>
   xv (ap p b).l k lo b.toNat b3 fun x hx k lo Yf=>by have hb:=(ht.shape b.toNat b1).2.1 x hx;exact Bp ht n x k lo hb.1 jB ((ht.shape b.toNat b1).1.block b2 x hx) Yf
  split
  ·rename_i e;obtain⟨x,u',hx⟩:=sh.right e;have u':(ap p a).l=[x]:=u';rw[u']at hc;obtain⟨c1,c2,c3,c4,c5⟩:=kQ hc;have:=EV ht n (k+1) lo c1 jB hx c5;rw[u',List.length_append,List.length_singleton];show(jS p n x (k+1)).length+1+1+_<=_;omega
  split
  ·rename_i e;obtain⟨x,y,u',hx,hy⟩:=sh.two (.inr e);have u':(ap p a).l=[x,y]:=u';rw[u']at hc;obtain⟨c1,c2,c3,c4,c5,c6⟩:=kV hc;obtain⟨d1,d2,d3,d4,d5⟩:=kQ c6;have e1:=mS ht n x (k+1) lo c1 jB hx c5;have e2:=mS ht n y (k+1+(bg p n x (k+1)).length) (x.toNat+1) d1 jB hy d5;rw[u',show nth [x,y] 0=x from rfl,show nth [x,y] 1=y from rfl];simp only[List.length_append,List.length_cons,List.length_nil];omega
  split
  ·rename_i e;obtain⟨x,u',hx⟩:=sh.tS e;have u':(ap p a).l=[x]:=u';rw[u']at hc;obtain⟨c1,c2,c3,c4,c5⟩:=kQ hc;have:=AK ht n (k+1) lo jB hx c5;rw[u',List.length_append,List.length_singleton];show(cz p n x (k+1)).length+1+1+_<=_;omega
  split
  ·rename_i e;obtain⟨x,u',hx⟩:=sh.one (by have e:(nth p.aa.nodes a.toNat).kind=14:=e;omega);have u':(ap p a).l=[x]:=u';rw[u']at hc;obtain⟨c1,c2,c3,c4,c5⟩:=kQ hc;have:=mS ht n x (k+1) lo c1 jB hx c5;rw[u',List.length_append,List.length_singleton];show(bg p n x (k+1)).length+1+1+_<=_;omega
  split
  ·rename_i e;rcases sh.ret e with u'|⟨x,u',hx⟩
   ·have u':(ap p a).l=[]:=u';rw[u',if_pos (show([]:UU).length=0 from rfl)];simp only[List.length_cons,List.length_nil];omega
   ·have u':(ap p a).l=[x]:=u';rw[u']at hc;obtain⟨c1,c2,c3,c4,c5⟩:=kQ hc;have:=mS ht n x (k+1) lo c1 jB hx c5;rw[u',if_neg jE,List.length_append,List.length_singleton];show(bg p n x (k+1)).length+1+1+_<=_;omega
  ·rename_i n1 n2 n3 n4 n5;by_cases k16:(ap p a).kind=16
   ·rw[Hr k16];obtain⟨x,b,u',hx,hb⟩:=sh.dP k16;have u':(ap p a).l=[x,b]:=u';rw[u']at hc;obtain⟨c1,c2,c3,c4,c5,c6⟩:=kV hc;obtain⟨d1,d2,d3,d4,d5⟩:=kQ c6;rw[u',show nth [x,b] 0=x from rfl,show nth [x,b] 1=b from rfl];have e1:=mS ht n x (k+1) lo c1 jB hx c5;have e2:=blk b (x.toNat+1) (k+1+(bg p n x (k+1)).length+1) d1 jB hb d5;simp only[List.length_append,List.length_cons,List.length_nil];omega
   have k15:(ap p a).kind=15:=jB;obtain⟨x,b,hx,hb,u'⟩:=sh.lC k15;rcases u' with u'|⟨d,u',hd⟩
   ·have u':(ap p a).l=[x,b]:=u';rw[GG k15 (by rw[u'];simp)];rw[u']at hc;obtain⟨c1,c2,c3,c4,c5,c6⟩:=kV hc;obtain⟨d1,d2,d3,d4,d5⟩:=kQ c6;rw[u',show nth [x,b] 0=x from rfl,show nth [x,b] 1=b from rfl];have e1:=mS ht n x (k+1) lo c1 jB hx c5;have e2:=blk b (x.toNat+1) (k+1+(bg p n x (k+1)).length+1) d1 jB hb d5;simp only[List.length_append,List.length_cons,List.length_nil];omega
   ·have u':(ap p a).l=[x,b,d]:=u';rw[Iu k15 (by rw[u'];rfl)];rw[u']at hc;obtain⟨c1,c2,c3,c4,c5,c6⟩:=kV hc;obtain⟨d1,d2,d3,d4,d5,d6⟩:=kV c6;obtain⟨g1,g2,g3,g4,g5⟩:=kQ d6;rw[u',show nth [x,b,d] 0=x from rfl,show nth [x,b,d] 1=b from rfl,show nth [x,b,d] 2=d from rfl];have e1:=mS ht n x (k+1) lo c1 jB hx c5;have e2:=blk b (x.toNat+1) (k+1+(bg p n x (k+1)).length+1) d1 jB hb d5;have e3:=blk d (b.toNat+1) (k+1+(bg p n x (k+1)).length+1+(bv (gj p n) (k+1+(bg p n x (k+1)).length+1) (ap p b).l []).length+1) g1 jB hd g5;simp only[List.length_append,List.length_cons,List.length_nil];omega
def eW(p:ah)(i:Nat):aE:=(p.aa.ak.take i).foldl (DK p) ⟨[],[]⟩
def zq(p:ah)(i:Nat)(h:i<p.aa.ak.length):eW p (i+1)=DK p (eW p i) (nth p.aa.ak i):=by unfold eW;rw[LY _ _ h,List.foldl_append];rfl
theorem zG(p:ah):∀i,i<=p.aa.ak.length->(eW p i).entry.length=i
 |0,_=>rfl
 |i+1,h=>by rw[zq p i jB];show((eW p i).entry++[_]).length=_;rw[List.length_append,zG p i jB];rfl
theorem Kn(p:ah)(j:Nat):∀i,j<i->i<=p.aa.ak.length->∃k:Nat,nth (eW p i).entry j=(k:Int)/\bJ (eW p i).ins k (Ed p (ns p) k (nth p.aa.ak j).body++[iI 22 (nth p.aa.ak j).ret])
 |0,h,_=>by omega
 |i+1,h,hi=>by
  rw[zq p i jB];have hl:=zG p i jB;by_cases e:j<i
  ·obtain⟨k,h1,post,h2⟩:=Kn p j i e jB;refine⟨k,?_,post++(qS p (ns p) (nth p.aa.ak i).body (eW p i).ins.length++[iI 22 (nth p.aa.ak i).ret]),?_⟩
   ·show nth ((eW p i).entry++[_]) j=_;rw[qf jB];exact h1
   ·show((eW p i).ins++_++_).drop k=_;have hk:k<=(eW p i).ins.length:=Classical.byContradiction fun hk=>by
     rw[List.drop_eq_nil_of_le jB]at h2;have:=congrArg List.length h2;simp at this
    rw[List.append_assoc,List.drop_append_of_le_length hk,h2,List.append_assoc]
  ·have:j=i:=jB;subst this;refine⟨(eW p j).ins.length,?_,[],?_⟩
   ·show nth ((eW p j).entry++[((eW p j).ins.length:Int)]) j=_;have:=qM (eW p j).entry ((eW p j).ins.length:Int);rw[hl]at this;exact this
   ·show((eW p j).ins++qS p (ns p) (nth p.aa.ak j).body (eW p j).ins.length++[iI 22 (nth p.aa.ak j).ret]).drop (eW p j).ins.length=_;rw[List.append_assoc,List.drop_left,List.append_nil];rfl
theorem Di{p:ah}(hs:gF p):∀i,i<=p.aa.ak.length->(eW p i).ins.length<=2000*i
 |0,_=>Nat.le_refl _
 |i+1,h=>by
  have ih:=Di hs i jB;rw[zq p i jB];have Wa:=ou hs.ok.aa (k:=i) jB;have hc:=(hs.ak i jB).chain;have hm:=hs.ok.aa.many;have Yu:=hs.ok.aa.body _ (cV (l:=p.aa.ak) (k:=i) jB);have Y2:=hs.ok.aa.shape (nth p.aa.ak i).body.toNat (by have:=Wa.1;have:=Wa.2;omega);have hb:=xv (p:=p) (f:=gj p (ns p)) (ap p (nth p.aa.ak i).body).l (eW p i).ins.length (kW p.aa i) (nth p.aa.ak i).body.toNat hc fun x hx k lo Yf=>by have hb:=Y2.2.1 x hx;have:=Wa.1;have:=Wa.2;exact Bp hs.ok.aa _ x k lo hb.1 jB (Y2.1.block Yu x hx) Yf
  show((eW p i).ins++qS p (ns p) (nth p.aa.ak i).body (eW p i).ins.length++[iI 22 (nth p.aa.ak i).ret]).length<=_;rw[List.length_append,List.length_append,List.length_singleton];have:=Wa.1;have:=Wa.2;unfold qS;have:(nth p.aa.ak i).body.toNat<=300:=jB;omega
def rk(hs:gF p):uz p (dp p):=by
 have e:dp p=eW p p.aa.ak.length:=by unfold dp eW;rw[List.take_length]
 have hf:=hs.ok.aa.ak;rw[e];exact⟨zG p _ jl,fun j hj=>Kn p j _ hj jl,by have:=Di hs _ (Nat.le_refl p.aa.ak.length);omega⟩
def pJ(p:ah)(C:aE):MV:=⟨[MV.jO p C (j4 p) []],0,[],0,[],0,0,0⟩
theorem FD:∀(l:List bp) (i:Int) (x:bp),iw (l++[x]) i=iw l i++[⟨x.name,x.ty,i+l.length⟩]
 |[],i,x=>by simp[iw]
 |y::l,i,x=>by
  have:=FD l (i+1) x;simp only[List.cons_append,iw,this,List.length_cons];congr 3
  simp only[ba.mk.injEq,true_and];omega
theorem yp:∀(l:List bp) (i:Int),(iw l i).length=l.length
 |[],i=>rfl
 |y::l,i=>by simp only[iw,List.length_cons,yp l (i+1)]
def zp(h:nC p)(b:Int):(ap p b).l.length<=300:=by
 have hm:=h.aa.many;by_cases hb:b.toNat<p.aa.nodes.length
 ·obtain⟨lo,hc⟩:=(h.aa.shape b.toNat hb).2.2;have:=Db hc;show(nth p.aa.nodes b.toNat).l.length<=300;omega
 ·unfold ap nth;rw[List.getD_eq_getElem?_getD,List.getElem?_eq_none jB];exact Nat.zero_le _
end Go.Proofs.YtjpcgmjaipfgdaaGreatDoor
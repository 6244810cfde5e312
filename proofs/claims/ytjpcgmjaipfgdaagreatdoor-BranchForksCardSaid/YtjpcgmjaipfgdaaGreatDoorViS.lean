/- Lemmas. No conditions. -/
import Derived.Test.YtjpcgmjaipfgdaaGreatDoorSo9
set_option linter.all false
namespace Go.Gd
open Go
def iI(op a:Int):az:=⟨op,a,0,sE⟩
def bA(f:Int->Int->List az)(from_:Int):UY->List az->List az
 |[],out=>out
 |x::l,out=>bA f from_ l (out++f x (from_+out.length))
def lD(s:U0):Int:=if s=(⟨#[38,38]⟩:U0)then 18 else if s=(⟨#[124,124]⟩:U0)then 19 else 7
def br(p:ab):Nat->Int->Int->List az
 |0,_,_=>[]
 |n+1,a,from_=>
  let nd:=ak p a
  let x:=br p n (nth nd.l 0) from_
  if nd.kind=1 then[iI 2 nd.n]
  else if nd.kind=2 then[iI 3 nd.n]
  else if nd.kind=3 then[⟨4,0,0,nd.name⟩]
  else if nd.kind=4 then[⟨5,nth p.slots a.toNat,nth p.types a.toNat,sE⟩]
  else if nd.kind=5 then x++[iI 11 (nth p.slots a.toNat)]
  else if nd.kind=6 then x++[iI 10 0]
  else if nd.kind=7 then x++[iI 8 0]
  else if nd.kind=8 then x++[iI 9 0]
  else if lD nd.name=7 then x++br p n (nth nd.l 1) (from_+x.length)++[⟨7,0,0,nd.name⟩]
  else
   let y:=br p n (nth nd.l 1) (from_+x.length+1)
   x++[iI (lD nd.name) (from_+x.length+1+y.length)]++y
def mR(p:ab):Nat:=p.aa.nodes.length
def BX(p:ab)(a:Int):Int:=j7 bk.name (ak p a).name p.aa.ao 0 (-1)
def cM(p:ab)(n:Nat)(a from_:Int):List az:=bA (br p n) from_ (ak p a).l []++[⟨20,BX p a,(ak p a).l.length,sE⟩]
def j3(p:ab)(n:Nat)(a from_:Int):List az:=
 if(ak p a).kind=19 then[iI 14 0]
 else if(ak p a).kind=20 then br p n (nth (ak p a).l 0) from_++[iI 13 0]
 else if(ak p a).kind=21 then cM p n a from_
 else br p n a from_
def sD(p:ab)(n:Nat)(bl:Int->Int->List az)(a from_:Int):List az:=
 let nd:=ak p a
 let x:=br p n (nth nd.l 0) from_
 let b:=bl (nth nd.l 1) (from_+x.length+1)
 if nd.kind=16 then x++[iI 17 (from_+x.length+1+(b.length+1))]++(b++[iI 16 (from_-1)])
 else if nd.l.length=3 then
  let c:=bl (nth nd.l 2) (from_+x.length+1+b.length+1)
  x++[iI 17 (from_+x.length+1+(b.length+1))]++(b++[iI 16 (from_+x.length+1+b.length+1+c.length)])++c
 else x++[iI 17 (from_+x.length+1+b.length)]++b
def gv(p:ab):Nat->Int->Int->List az
 |0,_,_=>[]
 |n+1,a,from_=>
  let nd:=ak p a
  let at_:=from_+1
  let x:=br p n (nth nd.l 0) at_
  iI 1 a::(
   if nd.kind=10\/nd.kind=11 then j3 p n (nth nd.l 0) at_++[iI 6 (nth p.slots a.toNat)]
   else if nd.kind=12 then x++br p n (nth nd.l 1) (at_+x.length)++[iI 12 (nth p.slots a.toNat)]
   else if nd.kind=13 then cM p n (nth nd.l 0) at_++[iI 23 0]
   else if nd.kind=14 then x++[iI 15 0]
   else if nd.kind=17 then(if nd.l.length=0 then[iI 22 0]else x++[iI 21 0])
   else sD p n (fun b f=>bA (gv p n) f (ak p b).l []) a at_)
def qN(p:ab)(n:Nat)(b from_:Int):List az:=bA (gv p n) from_ (ak p b).l []
def B9(p:ab)(c:aI)(f:bk):aI:=⟨c.ins++qN p (mR p) f.body c.ins.length++[iI 22 f.ret],c.entry++[(c.ins.length:Int)]⟩
def bQ(p:ab):aI:=p.aa.ao.foldl (B9 p) ⟨[],[]⟩
structure MC where
 fn:Int
 at_:Int
 mark:Int
 slots:List aj
 stack:List aj
 aT:Nat
 deriving Inhabited
structure MV where
 calls:List MC
 aT:Nat
 heap:List (List Int)
 in_:Int
 aZ:List ByteArray
 status:Int
 cf:Int
 time:Int
namespace MC
def push(c:MC)(v:aj):MC:={ c with stack:=c.stack++[v],aT:=c.aT-1 }
def last(c:MC):aj:=nth c.stack (c.stack.length-1)
def cut(c:MC)(n:Nat):MC:={ c with stack:=c.stack.take (c.stack.length-n),aT:=c.aT+n }
def jump(c:MC)(a:Int):MC:={ c with at_:=a }
def back(c:MC):MC:={ c with at_:=c.mark,stack:=[],aT:=0 }
end MC
namespace MV
def ah(m:MV):MC:=nth m.calls (m.calls.length-1)
def aU(m:MV)(c:MC):MV:={ m with calls:=m.calls.set (m.calls.length-1) c }
def push(m:MV)(v:aj):MV:=m.aU (m.ah.push v)
def cut(m:MV)(n:Nat):MV:=m.aU (m.ah.cut n)
def stops(m:MV)(status cf:Int):MV:={ m.aU m.ah.back with status:=status,cf:=cf }
def dP(m:MV)(r:aj×Int):MV:=if r.2≠0 then m.stops 3 r.2 else m.push r.1
def pop(m:MV):MV:={ m with calls:=m.calls.take (m.calls.length-1),aT:=m.aT+1 }
def ends(m:MV)(v:aj):MV:=if m.calls.length<=1 then{ m.pop with status:=2 }else m.pop.push v
def EA(C:aI)(fn:Int):Int:=nth C.entry fn.toNat
def iJ(p:ab)(C:aI)(fn:Int)(args:List aj):MC:=⟨fn,EA C fn,EA C fn,args++List.replicate ((nth p.size fn.toNat)-args.length).toNat v0,[],0⟩
def cR(m:MV)(p:ab)(C:aI)(fn:Int)(args:List aj):MV:={ m with calls:=m.calls++[iJ p C fn args],aT:=m.aT-1 }
def bo(h:UW)(n:Int):UY:=if n<1\/(h.length:Int)<n then[]else nth h (n-1).toNat
def ins(m:MV)(p:ab)(C:aI)(inp:UY)(x:az):MV:=
 let c:=m.ah
 let l:=c.last
 let k:=(c.cut 1).last
 if x.op=2 then m.push (vI x.a)
 else if x.op=3 then m.push (vB (decide (x.a=1)))
 else if x.op=4 then m.push (vT x.s)
 else if x.op=5 then m.push (dU c.slots x.a x.b)
 else if x.op=6 then m.aU { c.cut 1 with slots:=c.slots.set x.a.toNat l }
 else if x.op=7 then(m.cut 2).dP (qP x.s k l)
 else if x.op=8 then(m.cut 1).push (mQ (⟨#[45]⟩:U0) l)
 else if x.op=9 then(m.cut 1).push (mQ (⟨#[33]⟩:U0) l)
 else if x.op=10 then(m.cut 1).push (vI (if l.ty=4 then((bo m.heap l.n).length:Int)else(l.s.size:Int)))
 else if x.op=11 then
  let L:=bo m.heap (dU c.slots x.a 4).n
  if l.n<0\/(L.length:Int)<=l.n then(m.cut 1).stops 3 2 else(m.cut 1).push (vI (nth L l.n.toNat))
 else if x.op=12 then
  let a:=(dU c.slots x.a 4).n
  if k.n<0\/((bo m.heap a).length:Int)<=k.n then(m.cut 2).stops 3 2
  else{ m.cut 2 with heap:=m.heap.set (a-1).toNat ((nth m.heap (a-1).toNat).set k.n.toNat l.n) }
 else if x.op=13 then
  if l.n<0\/16<l.n then(m.cut 1).stops 3 7
  else if 40<gq m.heap+l.n+1 then(m.cut 1).stops 3 4
  else{ (m.cut 1).push ⟨4,m.heap.length+1,sE⟩with heap:=m.heap++[List.replicate l.n.toNat 0] }
 else if x.op=14 then
  if(inp.length:Int)<=m.in_ then m.stops 1 0 else{ m.push (vI (nth inp m.in_.toNat))with in_:=m.in_+1 }
 else if x.op=15 then
  if 24<=m.aZ.length then m.stops 3 5 else{ m.cut 1 with aZ:=m.aZ++[mA l] }
 else if x.op=16 then m.aU (c.jump x.a)
 else if x.op=17 then(if l.n=0 then m.aU ((c.cut 1).jump x.a)else m.cut 1)
 else if x.op=18\/x.op=19 then(if(l.n=1<->x.op=19)then m.aU (c.jump x.a)else m.cut 1)
 else if x.op=20 then
  let m1:=m.cut x.b.toNat
  if 8<=m.calls.length then m1.stops 3 3 else m1.cR p C x.a (c.stack.drop (c.stack.length-x.b.toNat))
 else if x.op=21 then(m.cut 1).ends l
 else if x.op=22 then m.ends (vZ x.a)
 else if x.op=23 then m.cut 1
 else m
def bh(m:MV)(C:aI):az:=nth C.ins m.ah.at_.toNat
def one(m:MV)(p:ab)(C:aI)(inp:UY):MV:=(m.aU (m.ah.jump (m.ah.at_+1))).ins p C inp (m.bh C)
structure fP(m:MV)(p:ab)(C:aI):Prop where
 calls:1<=m.calls.length
 nR:m.calls.length<=8
 a0:0<=m.ah.at_
 a1:m.ah.at_<C.ins.length
 one:(m.bh C).op=6\/(m.bh C).op=8\/(m.bh C).op=9\/(m.bh C).op=10\/(m.bh C).op=11\/(m.bh C).op=13\/(m.bh C).op=15\/(m.bh C).op=17\/(m.bh C).op=18\/(m.bh C).op=19\/(m.bh C).op=21\/(m.bh C).op=23->1<=m.ah.stack.length
 two:(m.bh C).op=7\/(m.bh C).op=12->2<=m.ah.stack.length
 slot:(m.bh C).op=5\/(m.bh C).op=6\/(m.bh C).op=11\/(m.bh C).op=12->0<=(m.bh C).a/\(m.bh C).a<m.ah.slots.length
 call:(m.bh C).op=20->0<=(m.bh C).b/\(m.bh C).b<=m.ah.stack.length/\(m.bh C).b<=3/\0<=(m.bh C).a/\(m.bh C).a<C.entry.length/\(m.bh C).a<p.size.length/\0<=nth p.size (m.bh C).a.toNat/\nth p.size (m.bh C).a.toNat<=24/\(m.bh C).b<=nth p.size (m.bh C).a.toNat
 op:1<=(m.bh C).op/\(m.bh C).op<=23
 word:(m.bh C).op=15->bz m.ah.last.n
 ka:∀v∈m.ah.stack,v.s.size<=40
 deep:m.ah.stack.length<=1000
end MV
def bM(C:List az)(k:Nat)(c:List az):Prop:=∃post,C.drop k=c++post
variable{C:List az}{k:Nat}
def bM.app{a b:List az}(h:bM C k (a++b)):bM C k a/\bM C (k+a.length) b:=by obtain⟨post,e⟩:=h;refine⟨⟨b++post,by rw[e,List.append_assoc]⟩,⟨post,?_⟩⟩;rw[<-List.drop_drop,e,List.append_assoc,List.drop_left]
def bM.head{x:az}{c:List az}(h:bM C k (x::c)):k<C.length/\nth C k=x/\bM C (k+1) c:=by
 obtain⟨post,e⟩:=h;have hk:k<C.length:=Classical.byContradiction fun h=>by rw[List.drop_eq_nil_of_le jB]at e;cases e
 refine⟨hk,?_,⟨post,?_⟩⟩
 ·rw[List.drop_eq_getElem_cons hk]at e;rw[fA hk];exact(List.cons.inj e).1
 ·rw[List.drop_eq_getElem_cons hk]at e;exact(List.cons.inj e).2
def bM.last{x:az}{c:List az}(h:bM C k (c++[x])):bM C k c/\k+c.length<C.length/\nth C (k+c.length)=x:=
 ⟨h.app.1,h.app.2.head.1,h.app.2.head.2.1⟩
theorem wA(f:Int->Int->List az):∀(L:UY) (k:Int) (out:List az),bA f k L out=out++bA f (k+out.length) L []
 |[],k,out=>by simp[bA]
 |x::L,k,out=>by show bA f k L (out++f x (k+out.length))=out++bA f (k+out.length) L ([]++f x (k+out.length+(0:Nat)));rw[wA f L k,wA f L (k+out.length) _];simp only[List.nil_append,List.length_append,List.append_assoc,Int.natCast_add,Int.natCast_zero,Int.add_zero,Int.add_assoc]
theorem Bc(f:Int->Int->List az):∀(A B:UY) (k:Int) (out:List az),bA f k (A++B) out=bA f k B (bA f k A out)
 |[],B,k,out=>rfl
 |x::A,B,k,out=>Bc f A B k _
theorem HR{f g:Int->Int->List az}:∀(L:UY) (k:Int) (out:List az),(∀x∈L,∀j,f x j=g x j)->bA f k L out=bA g k L out
 |[],_,_,_=>rfl
 |x::L,k,out,h=>by show bA f k L (out++f x _)=bA g k L (out++g x _);rw[h x jE,HR L k _ fun y hy=>h y (by simp[hy])]
namespace MV
variable{M:MV}
def bs(h:1<=M.calls.length)(c:MC):(M.aU c).ah=c:=by show nth (M.calls.set _ c) ((M.calls.set _ c).length-1)=c;rw[List.length_set];exact(Go.Gd.dH _ _ _ _ jB).trans (if_pos rfl)
def dx(M:MV)(c d:MC):(M.aU c).aU d=M.aU d:=by show({ M with calls:=(M.calls.set _ c).set ((M.calls.set _ c).length-1) d }:MV)=_;rw[List.length_set,List.set_set];rfl
def bL(M:MV)(c:MC):(M.aU c).calls.length=M.calls.length:=by show(M.calls.set _ c).length=_;simp
def sf(M:MV)(h:1<=M.calls.length):M.aU M.ah=M:=by show({ M with calls:=M.calls.set (M.calls.length-1) (nth M.calls (M.calls.length-1)) }:MV)=M;rw[fA jB,List.set_getElem_self]
def kq(M:MV)(c:MC):(M.aU c).heap=M.heap:=rfl
def js(M:MV)(c:MC)(s t:Int):MV:={ M.aU c.back with status:=s,cf:=t }
def eK(h:1<=M.calls.length)(c:MC)(s t:Int):(M.aU c).stops s t=M.js c s t:=by unfold stops js;rw[bs h,dx]
def fu(h:1<=M.calls.length)(c:MC)(v:aj):(M.aU c).push v=M.aU (c.push v):=by unfold push;rw[bs h,dx]
def dp(h:1<=M.calls.length)(c:MC)(n:Nat):(M.aU c).cut n=M.aU (c.cut n):=by unfold cut;rw[bs h,dx]
end MV
section
variable (m:MV)(p:ab)(C:aI)(inp:UY)(a b:Int)(s:U0)
def MV.rC:m.ins p C inp (iI 2 a)=m.push (vI a):=rfl
def MV.qh:m.ins p C inp (iI 3 a)=m.push (vB (decide (a=1))):=rfl
def MV.pW:m.ins p C inp ⟨4,a,b,s⟩=m.push (vT s):=rfl
def MV.p7:m.ins p C inp ⟨5,a,b,s⟩=m.push (dU m.ah.slots a b):=rfl
def MV.o5:m.ins p C inp (iI 6 a)=m.aU { m.ah.cut 1 with slots:=m.ah.slots.set a.toNat m.ah.last }:=rfl
def MV.rp:m.ins p C inp ⟨7,a,b,s⟩=(m.cut 2).dP (qP s (m.ah.cut 1).last m.ah.last):=rfl
def MV.rJ:m.ins p C inp (iI 8 a)=(m.cut 1).push (mQ (⟨#[45]⟩:U0) m.ah.last):=rfl
def MV.sj:m.ins p C inp (iI 9 a)=(m.cut 1).push (mQ (⟨#[33]⟩:U0) m.ah.last):=rfl
def MV.j5:m.ins p C inp (iI 10 a)=(m.cut 1).push (vI (if m.ah.last.ty=4 then((bo m.heap m.ah.last.n).length:Int)else(m.ah.last.s.size:Int))):=rfl
def MV.o9:m.ins p C inp (iI 11 a)=if m.ah.last.n<0\/((bo m.heap (dU m.ah.slots a 4).n).length:Int)<=m.ah.last.n then(m.cut 1).stops 3 2 else(m.cut 1).push (vI (nth (bo m.heap (dU m.ah.slots a 4).n) m.ah.last.n.toNat)):=rfl
def MV.rn:m.ins p C inp (iI 12 a)=if(m.ah.cut 1).last.n<0\/((bo m.heap (dU m.ah.slots a 4).n).length:Int)<=(m.ah.cut 1).last.n then(m.cut 2).stops 3 2
  else{ m.cut 2 with heap:=m.heap.set ((dU m.ah.slots a 4).n-1).toNat ((nth m.heap ((dU m.ah.slots a 4).n-1).toNat).set (m.ah.cut 1).last.n.toNat m.ah.last.n) }:=rfl
def MV.rT:m.ins p C inp (iI 13 a)=if m.ah.last.n<0\/16<m.ah.last.n then(m.cut 1).stops 3 7
  else if 40<gq m.heap+m.ah.last.n+1 then(m.cut 1).stops 3 4
  else{ (m.cut 1).push ⟨4,m.heap.length+1,sE⟩with heap:=m.heap++[List.replicate m.ah.last.n.toNat 0] }:=rfl
def MV.o4:m.ins p C inp (iI 14 a)=if(inp.length:Int)<=m.in_ then m.stops 1 0 else{ m.push (vI (nth inp m.in_.toNat))with in_:=m.in_+1 }:=rfl
def MV.oQ:m.ins p C inp (iI 15 a)=if 24<=m.aZ.length then m.stops 3 5 else{ m.cut 1 with aZ:=m.aZ++[mA m.ah.last] }:=rfl
def MV.mw:m.ins p C inp (iI 16 a)=m.aU (m.ah.jump a):=rfl
def MV.oD:m.ins p C inp (iI 17 a)=if m.ah.last.n=0 then m.aU ((m.ah.cut 1).jump a)else m.cut 1:=rfl
def MV.rY:m.ins p C inp (iI 18 a)=if m.ah.last.n=1 then m.cut 1 else m.aU (m.ah.jump a):=by
 show(if(m.ah.last.n=1<->(18:Int)=19)then m.aU (m.ah.jump a)else m.cut 1)=_;by_cases h:m.ah.last.n=1
 ·rw[if_pos h,if_neg (fun e=>absurd (e.1 h) jC)]
 ·rw[if_neg h,if_pos ⟨fun e=>(h e).elim,fun e=>absurd e jC⟩]
def MV.uY:m.ins p C inp (iI 19 a)=if m.ah.last.n=1 then m.aU (m.ah.jump a)else m.cut 1:=by
 show(if(m.ah.last.n=1<->(19:Int)=19)then m.aU (m.ah.jump a)else m.cut 1)=_;by_cases h:m.ah.last.n=1
 ·rw[if_pos h,if_pos ⟨fun _=>rfl,fun _=>h⟩]
 ·rw[if_neg h,if_neg (fun e=>h (e.2 rfl))]
def MV.ql:m.ins p C inp ⟨20,a,b,s⟩=if 8<=m.calls.length then(m.cut b.toNat).stops 3 3 else(m.cut b.toNat).cR p C a (m.ah.stack.drop (m.ah.stack.length-b.toNat)):=rfl
def MV.rK:m.ins p C inp (iI 21 a)=(m.cut 1).ends m.ah.last:=rfl
def MV.rH:m.ins p C inp (iI 23 a)=m.cut 1:=rfl
end
inductive eo(p:ab)(C:aI)(inp:List Int):Nat->MV->MV->Prop
 |refl (m:MV):eo p C inp 0 m m
 |step {n:Nat} {m m':MV} (h0:m.status=0) (h1:(m.bh C).op≠1) (hok:m.fP p C) (h:eo p C inp n (m.one p C inp) m'):eo p C inp (n+1) m m'
def bg(p:ab)(C:aI)(inp:UY)(m m':MV):Prop:=∃n,eo p C inp n m m'
theorem bg.refl{p:ab}{C:aI}{inp:UY}(m:MV):bg p C inp m m:=⟨0,.refl m⟩
def eo.trans{p:ab}{C:aI}{inp:UY}{n:Nat}{a b:MV}(h:eo p C inp n a b):∀{k c},eo p C inp k b c->eo p C inp (n+k) a c:=by
 induction h with
 |refl m=>intro k c hk;rw[Nat.zero_add];exact hk
 |step h0 h1 hok _ ih=>intro k c hk;rw[Nat.add_right_comm];exact .step h0 h1 hok (ih hk)
theorem bg.trans{p:ab}{C:aI}{inp:UY}{a b c:MV}(h:bg p C inp a b)(k:bg p C inp b c):bg p C inp a c:=by obtain⟨n,h⟩:=h;obtain⟨m,k⟩:=k;exact⟨n+m,h.trans k⟩
theorem bg.ins{p:ab}{C:aI}{inp:UY}{M m':MV}{c:MC}{k:Nat}{x:az}(h1:1<=M.calls.length)(h8:M.calls.length<=8)(hs:M.status=0)(hk:c.at_=k)(D':k<C.ins.length)(hx:nth C.ins k=x)(Xd:x.op≠1)
  (hok:(M.aU c).fP p C) (hg:bg p C inp ((M.aU { c with at_:=(k:Int)+1 }).ins p C inp x) m'):bg p C inp (M.aU c) m':=by
 obtain⟨n,hg⟩:=hg;have hi:(M.aU c).bh C=x:=by unfold MV.bh;rw[MV.bs h1,hk,Int.toNat_natCast,hx]
 refine⟨n+1,.step hs (by rw[hi];exact Xd) hok ?_⟩;unfold MV.one;rw[hi,MV.bs h1,MV.dx];unfold MC.jump;rw[hk];exact hg
def fP.N4{p:ab}{C:aI}{M:MV}{c:MC}{x:az}(h1:1<=M.calls.length)(h8:M.calls.length<=8)(hk:c.at_=k)(D':k<C.ins.length)(hx:nth C.ins k=x)
  (one:x.op=6\/x.op=8\/x.op=9\/x.op=10\/x.op=11\/x.op=13\/x.op=15\/x.op=17\/x.op=18\/x.op=19\/x.op=21\/x.op=23->1<=c.stack.length)
  (two:x.op=7\/x.op=12->2<=c.stack.length)
  (slot:x.op=5\/x.op=6\/x.op=11\/x.op=12->0<=x.a/\x.a<c.slots.length)
  (call:x.op=20->0<=x.b/\x.b<=c.stack.length/\x.b<=3/\0<=x.a/\x.a<C.entry.length/\x.a<p.size.length/\0<=nth p.size x.a.toNat/\nth p.size x.a.toNat<=24/\x.b<=nth p.size x.a.toNat)
  (op:1<=x.op/\x.op<=23) (word:x.op=15->bz c.last.n) (ka:∀v∈c.stack,v.s.size<=40) (deep:c.stack.length<=1000):(M.aU c).fP p C:=by
 have hi:(M.aU c).bh C=x:=by unfold MV.bh;rw[MV.bs h1,hk,Int.toNat_natCast,hx]
 have ht:=MV.bs h1 c;refine⟨by rw[MV.bL];exact h1,by rw[MV.bL];exact h8,by rw[ht,hk];omega,by rw[ht,hk];omega,?_,?_,?_,?_,?_,?_,?_,?_⟩
 ·rw[hi,ht];exact one
 ·rw[hi,ht];exact two
 ·rw[hi,ht];exact slot
 ·rw[hi,ht];exact call
 ·rw[hi];exact op
 ·rw[hi,ht];exact word
 ·rw[ht];exact ka
 ·rw[ht];exact deep
def Gv(p:ab)(n:Nat)(k:Nat)(b:Int):List az:=bA (gv p n) k (rG p b) []
structure uN(p:ab)(C:aI):Prop where
 len:C.entry.length=p.aa.ao.length
 at_:∀j,j<p.aa.ao.length->∃k:Nat,nth C.entry j=(k:Int)/\bM C.ins k (Gv p (mR p) k (nth p.aa.ao j).body++[iI 22 (nth p.aa.ao j).ret])
 pK:C.ins.length<=1000000
def MV.eu(m:MV):MV:={ m.aU { m.ah with mark:=m.ah.at_,at_:=m.ah.at_+1 }with status:=0 }
def MV.dG(m:MV)(C:aI):Prop:=m.status≠0\/(m.bh C).op=1
def MV.fC(m:MV):MV:={ m with time:=if m.status=1 then m.time else m.time+1 }
def qE(p:ab)(x:Int):bB:=⟨(ak p x).name,nth p.types (nth (ak p x).l 0).toNat,nth p.slots x.toNat⟩
def nF(w:Int->List bB->Option (List bB))(vars:List bB):UY->Option (List bB)
 |[]=>none
 |b::l=>(w b vars).or (nF w vars l)
def k8(p:ab)(x:Int)(vars:List bB):List bB:=if(ak p x).kind=10 then vars++[qE p x]else vars
def oT(w:Int->List bB->Option (List bB))(p:ab)(node:Int):UY->List bB->Option (List bB)
 |[],_=>none
 |x::l,vars=>
  if x=node then some vars
  else(if(ak p x).kind=15\/(ak p x).kind=16 then nF w (k8 p x vars) ((ak p x).l.drop 1)else none).or (oT w p node l (k8 p x vars))
def jK(p:ab)(node:Int):Nat->Int->List bB->Option (List bB)
 |0,_,_=>none
 |n+1,b,vars=>oT (jK p node n) p node (ak p b).l vars
def jQ:List bI->Int->List bB
 |[],_=>[]
 |x::l,i=>⟨x.name,x.ty,i⟩::jQ l (i+1)
def fL(p:ab)(node:Int):List bB:=
 (jK p node p.aa.nodes.length (nth p.aa.ao (nth p.fn node.toNat).toNat).body (jQ (nth p.aa.ao (nth p.fn node.toNat).toNat).params 0)).getD []
def Ag(v:aj):U0:=if v.ty=3 then(⟨#[34]⟩:U0)++v.s++(⟨#[34]⟩:U0)else mA v
def jg(n:Int):UY->Int->Int
 |[],_=>-1
 |v::l,i=>if v=n then i else jg n l (i+1)
def tT(l:UY)(n:Int):UY:=if jg n l 0<0 then l++[n]else l
def tN:UY->Bool->U0->U0
 |[],_,t=>t
 |x::l,b,t=>tN l true ((if b=true then t++(⟨#[44]⟩:U0)else t)++ld x)
def Dq(seen:UY)(n:Int)(l:UY):U0:=tN l false ((⟨#[35]⟩:U0)++ld (jg n seen 0+1)++(⟨#[91]⟩:U0))++(⟨#[93]⟩:U0)
def pe(heap:UW)(seen:UY)(v:aj):U0×UY:=
 if v.ty=4 then
  (if 1<=v.n/\v.n<=heap.length then(Dq (tT seen v.n) v.n (nth heap (v.n-1).toNat),tT seen v.n)else((⟨#[35,48,91,93]⟩:U0),seen))
 else(Ag v,seen)
def An(heap:UW)(slots:List aj)(a:List iz×UY)(x:bB):List iz×UY:=
 (a.1++[⟨x.name,(pe heap a.2 (dU slots x.slot x.ty)).1⟩],(pe heap a.2 (dU slots x.slot x.ty)).2)
def ma(heap:UW)(slots:List aj)(l:List bB)(seen:UY):List iz×UY:=l.foldl (An heap slots) ([],seen)
def yb(p:ab)(heap:UW)(a:List kf×UY)(c:gr):List kf×UY:=
 (a.1++[⟨(nth p.aa.ao c.fn.toNat).name,(ak p c.node).ci,(ma heap c.slots (fL p c.node) a.2).1⟩],(ma heap c.slots (fL p c.node) a.2).2)
def oV(p:ab)(heap:UW)(l:List gr):List kf×UY:=l.foldl (yb p heap) ([],[])
def gy(p:ab)(s:iq):lC:=⟨(oV p s.heap s.calls).1,s.aZ,s.in_,s.status,s.cf⟩
end Go.Gd
namespace Go.Gd.MV
open Go
def fl(c:MC)(v:aj)(st:List aj)(a:Int)(q:Nat):MC.last { c with at_:=a,stack:=st++[v],aT:=q }=v:=by show nth (st++[v]) ((st++[v]).length-1)=v;rw[List.length_append,List.length_singleton,Nat.add_sub_cancel];exact qq _ _
def fY(c:MC)(v:aj)(st:List aj)(a:Int)(q:Nat):MC.cut { c with at_:=a,stack:=st++[v],aT:=q } 1={ c with at_:=a,stack:=st,aT:=q+1 }:=by show MC.mk c.fn a c.mark c.slots ((st++[v]).take ((st++[v]).length-1)) (q+1)=_;rw[List.length_append,List.length_singleton,Nat.add_sub_cancel,List.take_left]
def ph(c:MC)(u v:aj)(st:List aj)(a:Int)(q:Nat):MC.cut { c with at_:=a,stack:=st++[u]++[v],aT:=q } 2={ c with at_:=a,stack:=st,aT:=q+2 }:=by show MC.mk c.fn a c.mark c.slots ((st++[u]++[v]).take ((st++[u]++[v]).length-2)) (q+2)=_;rw[List.append_assoc,List.length_append,show([u]++[v]).length=2 from rfl,Nat.add_sub_cancel,List.take_left]
end Go.Gd.MV
namespace Go.Proofs.YtjpcgmjaipfgdaaGreatDoor
open Go Go.Gd
def jy(p:ab)(j:Nat)(a:Int):Prop:=kW p.aa j<=a.toNat/\a.toNat<=(nth p.aa.ao j).body.toNat
variable{p:ab}{a:Int}
def jy.aH(h:fO p){j:Nat}(hj:j<p.aa.ao.length){b:Int}(hi:jy p j a)(hb:b∈(ak p a).l):jy p j b/\0<=b/\b.toNat<a.toNat/\b.toNat<p.aa.nodes.length:=by
 have Wf:=n7 h.ok.aa hj;have ha:a.toNat<p.aa.nodes.length:=by have:=hi.2;have:=Wf.1;have:=Wf.2;omega
 have h1:=(h.ok.aa.shape a.toNat ha).2.1 b hb;have hc:=(h.ao j hj).chain;have h2:=hi.2;have h3:=hi.1;refine⟨⟨?_,jB⟩,h1.1,h1.2,jB⟩;by_cases e:a.toNat<(nth p.aa.ao j).body.toNat
 ·exact hc.closed _ h3 e b hb
 ·have e:a.toNat=(nth p.aa.ao j).body.toNat:=jB;have VJ:b∈(nth p.aa.nodes a.toNat).l:=hb;rw[e]at VJ;exact(hc.mem b VJ).2.1
def Tc{α:Type}{P:α->Prop}{l:List α}{x:α}(h:∀v∈l,P v)(hx:P x):∀v∈l++[x],P v:=fun v hv=>by
 rcases List.mem_append.1 hv with hv|hv
 ·exact h v hv
 ·rw[List.mem_singleton.1 hv];exact hx
def l5(p:ab)(n:Nat)(a k:Int):br p (n+1) a k=(
  if(ak p a).kind=1 then[iI 2 (ak p a).n]
  else if(ak p a).kind=2 then[iI 3 (ak p a).n]
  else if(ak p a).kind=3 then[⟨4,0,0,(ak p a).name⟩]
  else if(ak p a).kind=4 then[⟨5,nth p.slots a.toNat,nth p.types a.toNat,sE⟩]
  else if(ak p a).kind=5 then br p n (nth (ak p a).l 0) k++[iI 11 (nth p.slots a.toNat)]
  else if(ak p a).kind=6 then br p n (nth (ak p a).l 0) k++[iI 10 0]
  else if(ak p a).kind=7 then br p n (nth (ak p a).l 0) k++[iI 8 0]
  else if(ak p a).kind=8 then br p n (nth (ak p a).l 0) k++[iI 9 0]
  else if lD (ak p a).name=7 then br p n (nth (ak p a).l 0) k++br p n (nth (ak p a).l 1) (k+(br p n (nth (ak p a).l 0) k).length)++[⟨7,0,0,(ak p a).name⟩]
  else br p n (nth (ak p a).l 0) k++[iI (lD (ak p a).name) (k+(br p n (nth (ak p a).l 0) k).length+1+(br p n (nth (ak p a).l 1) (k+(br p n (nth (ak p a).l 0) k).length+1)).length)]++br p n (nth (ak p a).l 1) (k+(br p n (nth (ak p a).l 0) k).length+1)):=rfl
variable{n:Nat}{bl:Int->Int->List az}{k:Int}
def Gr(hk:(ak p a).kind=16):sD p n bl a k=br p n (nth (ak p a).l 0) k++[iI 17 (k+(br p n (nth (ak p a).l 0) k).length+1+((bl (nth (ak p a).l 1) (k+(br p n (nth (ak p a).l 0) k).length+1)).length+1))]++(bl (nth (ak p a).l 1) (k+(br p n (nth (ak p a).l 0) k).length+1)++[iI 16 (k-1)]):=by unfold sD;simp only;rw[if_pos hk]
def Gc(hk:(ak p a).kind=15)(hl:(ak p a).l.length=3):sD p n bl a k=br p n (nth (ak p a).l 0) k++[iI 17 (k+(br p n (nth (ak p a).l 0) k).length+1+((bl (nth (ak p a).l 1) (k+(br p n (nth (ak p a).l 0) k).length+1)).length+1))]++(bl (nth (ak p a).l 1) (k+(br p n (nth (ak p a).l 0) k).length+1)++[iI 16 (k+(br p n (nth (ak p a).l 0) k).length+1+(bl (nth (ak p a).l 1) (k+(br p n (nth (ak p a).l 0) k).length+1)).length+1+(bl (nth (ak p a).l 2) (k+(br p n (nth (ak p a).l 0) k).length+1+(bl (nth (ak p a).l 1) (k+(br p n (nth (ak p a).l 0) k).length+1)).length+1)).length)])++bl (nth (ak p a).l 2) (k+(br p n (nth (ak p a).l 0) k).length+1+(bl (nth (ak p a).l 1) (k+(br p n (nth (ak p a).l 0) k).length+1)).length+1):=by unfold sD;simp only;rw[jN,if_pos hl]
def Fl(hk:(ak p a).kind=15)(hl:(ak p a).l.length≠3):sD p n bl a k=br p n (nth (ak p a).l 0) k++[iI 17 (k+(br p n (nth (ak p a).l 0) k).length+1+(bl (nth (ak p a).l 1) (k+(br p n (nth (ak p a).l 0) k).length+1)).length)]++bl (nth (ak p a).l 1) (k+(br p n (nth (ak p a).l 0) k).length+1):=by unfold sD;simp only;rw[jN,if_neg hl]
def MV.sk{m:MV}(h:2<=m.calls.length):m.pop.ah=nth m.calls (m.calls.length-1-1):=by show nth (m.calls.take (m.calls.length-1)) ((m.calls.take (m.calls.length-1)).length-1)=_;rw[List.length_take,show min (m.calls.length-1) m.calls.length=m.calls.length-1 from jB,gY _ _ _ jB]
def ym(p:ab)(n:Nat)(a k:Int):gv p (n+1) a k=iI 1 a::(
  if(ak p a).kind=10\/(ak p a).kind=11 then j3 p n (nth (ak p a).l 0) (k+1)++[iI 6 (nth p.slots a.toNat)]
  else if(ak p a).kind=12 then br p n (nth (ak p a).l 0) (k+1)++br p n (nth (ak p a).l 1) (k+1+(br p n (nth (ak p a).l 0) (k+1)).length)++[iI 12 (nth p.slots a.toNat)]
  else if(ak p a).kind=13 then cM p n (nth (ak p a).l 0) (k+1)++[iI 23 0]
  else if(ak p a).kind=14 then br p n (nth (ak p a).l 0) (k+1)++[iI 15 0]
  else if(ak p a).kind=17 then(if(ak p a).l.length=0 then[iI 22 0]else br p n (nth (ak p a).l 0) (k+1)++[iI 21 0])
  else sD p n (fun b f=>bA (gv p n) f (ak p b).l []) a (k+1)):=rfl
def uV(p:ab)(n:Nat)(a k:Int):j3 p n a k=(if(ak p a).kind=19 then[iI 14 0]else if(ak p a).kind=20 then br p n (nth (ak p a).l 0) k++[iI 13 0]else if(ak p a).kind=21 then cM p n a k else br p n a k):=rfl
theorem mL{p:ab}(ht:aS p.aa):∀(n:Nat) (a k:Int) (lo:Nat),0<=a->a.toNat<p.aa.nodes.length->cW (bX p.aa.nodes a)->aP p.aa.nodes lo (ak p a).l a.toNat->(br p n a k).length+4*lo<=4*(a.toNat+1)
 |0,a,k,lo,h0,hl,hk,hc=>by have:=hc.le;show 0+_<=_;omega
 |n+1,a,k,lo,h0,hl,hk,hc=>by
  have Vd:=hc.le;have sh:=(ht.shape a.toNat hl).1;have Vv:cW (ak p a).kind:=hk;unfold cW at Vv;rw[l5];have one:∀x,(ak p a).l=[x]->cW (bX p.aa.nodes x)->(br p n (nth (ak p a).l 0) k).length+1+4*lo<=4*(a.toNat+1):=fun x u' hx=>by rw[u']at hc;obtain⟨c1,c2,c3,c4,c5⟩:=kX hc;have:=mL ht n x k lo c1 jB hx c5;rw[u'];show(br p n x k).length+1+_<=_;omega
  have VP:(ak p a).kind=1\/(ak p a).kind=2\/(ak p a).kind=3\/(ak p a).kind=4\/(ak p a).kind=5\/(ak p a).kind=6\/(ak p a).kind=7\/(ak p a).kind=8\/(ak p a).kind=9:=jB;rcases VP with e|e|e|e|e|e|e|e|e<;>simp only[e,Int.reduceEq,↓reduceIte,List.length_append,List.length_cons,List.length_nil]
  ·omega
  ·omega
  ·omega
  ·omega
  ·obtain⟨x,u',hx⟩:=sh.one (.inl e);have:=one x u' hx;omega
  ·obtain⟨x,u',hx⟩:=sh.one (by have e:(nth p.aa.nodes a.toNat).kind=6:=e;omega);have:=one x u' hx;omega
  ·obtain⟨x,u',hx⟩:=sh.one (by have e:(nth p.aa.nodes a.toNat).kind=7:=e;omega);have:=one x u' hx;omega
  ·obtain⟨x,u',hx⟩:=sh.one (by have e:(nth p.aa.nodes a.toNat).kind=8:=e;omega);have:=one x u' hx;omega
  ·obtain⟨x,y,u',hx,hy⟩:=sh.two (.inl e);have u':(ak p a).l=[x,y]:=u';rw[u']at hc;obtain⟨c1,c2,c3,c4,c5,c6⟩:=kQ hc;obtain⟨d1,d2,d3,d4,d5⟩:=kX c6;have e1:=fun k=>mL ht n x k lo c1 jB hx c5
   have e2:=fun k=>mL ht n y k (x.toNat+1) d1 jB hy d5
   rw[u',show nth [x,y] 0=x from rfl,show nth [x,y] 1=y from rfl];split
   ·simp only[List.length_append,List.length_cons,List.length_nil];have:=e1 k;have:=e2 (k+(br p n x k).length);omega
   ·simp only[List.length_append,List.length_cons,List.length_nil];have:=e1 k;have:=e2 (k+(br p n x k).length+1);omega
theorem xT{p:ab}{f:Int->Int->List az}:∀(L:UY) (k:Int) (lo hi:Nat),aP p.aa.nodes lo L hi->(∀x∈L,∀k lo,aP p.aa.nodes lo (ak p x).l x.toNat->(f x k).length+4*lo<=4*(x.toNat+1))->(bA f k L []).length+4*lo<=4*hi
 |[],k,lo,hi,hc,h=>by cases hc;show 0+_<=_;omega
 |x::L,k,lo,hi,hc,h=>by
  show(bA f k L ([]++f x (k+((0:Nat):Int)))).length+_<=_;rw[wA,List.nil_append,List.length_append];obtain⟨c1,c2,c3,c4,c5,c6⟩:=kQ hc;have h1:=h x jE (k+((0:Nat):Int)) lo c5;have h2:=xT L (k+(f x (k+((0:Nat):Int))).length) _ hi c6 fun y hy=>h y (by simp[hy])
  omega
def Bt(ht:aS p.aa)(n:Nat)(k:Int)(lo:Nat)(hl:a.toNat<p.aa.nodes.length)(hk:(ak p a).kind=21)(hc:aP p.aa.nodes lo (ak p a).l a.toNat):(cM p n a k).length+4*lo<=4*(a.toNat+1):=by
 have Zj:=ht.shape a.toNat hl;have:=xT (f:=br p n) (ak p a).l k lo a.toNat hc fun x hx k lo Yp=>by have hb:=Zj.2.1 x hx;exact mL ht n x k lo hb.1 jB (Zj.1.call hk x hx) Yp
 unfold cM;rw[List.length_append,List.length_singleton];omega
def HP(ht:aS p.aa)(n:Nat)(k:Int)(lo:Nat)(h0:0<=a)(hl:a.toNat<p.aa.nodes.length)(hk:fz (bX p.aa.nodes a))(hc:aP p.aa.nodes lo (ak p a).l a.toNat):(j3 p n a k).length+4*lo<=4*(a.toNat+1):=by
 have Vd:=hc.le;rw[uV];split
 ·simp only[List.length_cons,List.length_nil];omega
 rename_i e19;split
 ·rename_i e;obtain⟨x,u',hx⟩:=(ht.shape a.toNat hl).1.one (by have e:(nth p.aa.nodes a.toNat).kind=20:=e;omega);have u':(ak p a).l=[x]:=u';rw[u']at hc;obtain⟨c1,c2,c3,c4,c5⟩:=kX hc;have:=mL ht n x k lo c1 jB hx c5;rw[u',List.length_append,List.length_singleton];show(br p n x k).length+1+_<=_;omega
 rename_i e20;split
 ·rename_i e;exact Bt ht n k lo hl e hc
 ·rename_i e21;refine mL ht n a k lo h0 hl ?_ hc;rcases hk with hk|hk|hk|hk
  ·exact hk
  ·exact(e19 hk).elim
  ·exact(e20 hk).elim
  ·exact(e21 hk).elim
theorem C7{p:ab}(ht:aS p.aa):∀(n:Nat) (a k:Int) (lo:Nat),0<=a->a.toNat<p.aa.nodes.length->fF (bX p.aa.nodes a)->aP p.aa.nodes lo (ak p a).l a.toNat->(gv p n a k).length+4*lo<=4*(a.toNat+1)
 |0,a,k,lo,h0,hl,hk,hc=>by have:=hc.le;show 0+_<=_;omega
 |n+1,a,k,lo,h0,hl,hk,hc=>by
  have Vd:=hc.le;have sh:=(ht.shape a.toNat hl).1;have Vv:fF (ak p a).kind:=hk;unfold fF at Vv;rw[ym,List.length_cons];have blk:∀(b:Int) (lo:Nat) (k:Int),0<=b->b.toNat<p.aa.nodes.length->bX p.aa.nodes b=18->aP p.aa.nodes lo (ak p b).l b.toNat->(bA (gv p n) k (ak p b).l []).length+4*lo<=4*b.toNat:=fun b lo k b0 b1 b2 b3=>
   xT (ak p b).l k lo b.toNat b3 fun x hx k lo Yp=>by have hb:=(ht.shape b.toNat b1).2.1 x hx;exact C7 ht n x k lo hb.1 jB ((ht.shape b.toNat b1).1.block b2 x hx) Yp
  split
  ·rename_i e;obtain⟨x,u',hx⟩:=sh.right e;have u':(ak p a).l=[x]:=u';rw[u']at hc;obtain⟨c1,c2,c3,c4,c5⟩:=kX hc;have:=HP ht n (k+1) lo c1 jB hx c5;rw[u',List.length_append,List.length_singleton];show(j3 p n x (k+1)).length+1+1+_<=_;omega
  split
  ·rename_i e;obtain⟨x,y,u',hx,hy⟩:=sh.two (.inr e);have u':(ak p a).l=[x,y]:=u';rw[u']at hc;obtain⟨c1,c2,c3,c4,c5,c6⟩:=kQ hc;obtain⟨d1,d2,d3,d4,d5⟩:=kX c6;have e1:=mL ht n x (k+1) lo c1 jB hx c5;have e2:=mL ht n y (k+1+(br p n x (k+1)).length) (x.toNat+1) d1 jB hy d5;rw[u',show nth [x,y] 0=x from rfl,show nth [x,y] 1=y from rfl];simp only[List.length_append,List.length_cons,List.length_nil];omega
  split
  ·rename_i e;obtain⟨x,u',hx⟩:=sh.sU e;have u':(ak p a).l=[x]:=u';rw[u']at hc;obtain⟨c1,c2,c3,c4,c5⟩:=kX hc;have:=Bt ht n (k+1) lo jB hx c5;rw[u',List.length_append,List.length_singleton];show(cM p n x (k+1)).length+1+1+_<=_;omega
  split
  ·rename_i e;obtain⟨x,u',hx⟩:=sh.one (by have e:(nth p.aa.nodes a.toNat).kind=14:=e;omega);have u':(ak p a).l=[x]:=u';rw[u']at hc;obtain⟨c1,c2,c3,c4,c5⟩:=kX hc;have:=mL ht n x (k+1) lo c1 jB hx c5;rw[u',List.length_append,List.length_singleton];show(br p n x (k+1)).length+1+1+_<=_;omega
  split
  ·rename_i e;rcases sh.ret e with u'|⟨x,u',hx⟩
   ·have u':(ak p a).l=[]:=u';rw[u',if_pos (show([]:UY).length=0 from rfl)];simp only[List.length_cons,List.length_nil];omega
   ·have u':(ak p a).l=[x]:=u';rw[u']at hc;obtain⟨c1,c2,c3,c4,c5⟩:=kX hc;have:=mL ht n x (k+1) lo c1 jB hx c5;rw[u',if_neg jE,List.length_append,List.length_singleton];show(br p n x (k+1)).length+1+1+_<=_;omega
  ·rename_i n1 n2 n3 n4 n5;by_cases k16:(ak p a).kind=16
   ·rw[Gr k16];obtain⟨x,b,u',hx,hb⟩:=sh.ee k16;have u':(ak p a).l=[x,b]:=u';rw[u']at hc;obtain⟨c1,c2,c3,c4,c5,c6⟩:=kQ hc;obtain⟨d1,d2,d3,d4,d5⟩:=kX c6;rw[u',show nth [x,b] 0=x from rfl,show nth [x,b] 1=b from rfl];have e1:=mL ht n x (k+1) lo c1 jB hx c5;have e2:=blk b (x.toNat+1) (k+1+(br p n x (k+1)).length+1) d1 jB hb d5;simp only[List.length_append,List.length_cons,List.length_nil];omega
   have k15:(ak p a).kind=15:=jB;obtain⟨x,b,hx,hb,u'⟩:=sh.lg k15;rcases u' with u'|⟨d,u',hd⟩
   ·have u':(ak p a).l=[x,b]:=u';rw[Fl k15 (by rw[u'];simp)];rw[u']at hc;obtain⟨c1,c2,c3,c4,c5,c6⟩:=kQ hc;obtain⟨d1,d2,d3,d4,d5⟩:=kX c6;rw[u',show nth [x,b] 0=x from rfl,show nth [x,b] 1=b from rfl];have e1:=mL ht n x (k+1) lo c1 jB hx c5;have e2:=blk b (x.toNat+1) (k+1+(br p n x (k+1)).length+1) d1 jB hb d5;simp only[List.length_append,List.length_cons,List.length_nil];omega
   ·have u':(ak p a).l=[x,b,d]:=u';rw[Gc k15 (by rw[u'];rfl)];rw[u']at hc;obtain⟨c1,c2,c3,c4,c5,c6⟩:=kQ hc;obtain⟨d1,d2,d3,d4,d5,d6⟩:=kQ c6;obtain⟨g1,g2,g3,g4,g5⟩:=kX d6;rw[u',show nth [x,b,d] 0=x from rfl,show nth [x,b,d] 1=b from rfl,show nth [x,b,d] 2=d from rfl];have e1:=mL ht n x (k+1) lo c1 jB hx c5;have e2:=blk b (x.toNat+1) (k+1+(br p n x (k+1)).length+1) d1 jB hb d5;have e3:=blk d (b.toNat+1) (k+1+(br p n x (k+1)).length+1+(bA (gv p n) (k+1+(br p n x (k+1)).length+1) (ak p b).l []).length+1) g1 jB hd g5;simp only[List.length_append,List.length_cons,List.length_nil];omega
def fp(p:ab)(i:Nat):aI:=(p.aa.ao.take i).foldl (B9 p) ⟨[],[]⟩
def yX(p:ab)(i:Nat)(h:i<p.aa.ao.length):fp p (i+1)=B9 p (fp p i) (nth p.aa.ao i):=by unfold fp;rw[SL _ _ h,List.foldl_append];rfl
theorem zo(p:ab):∀i,i<=p.aa.ao.length->(fp p i).entry.length=i
 |0,_=>rfl
 |i+1,h=>by rw[yX p i jB];show((fp p i).entry++[_]).length=_;rw[List.length_append,zo p i jB];rfl
theorem FV(p:ab)(j:Nat):∀i,j<i->i<=p.aa.ao.length->∃k:Nat,nth (fp p i).entry j=(k:Int)/\bM (fp p i).ins k (Gv p (mR p) k (nth p.aa.ao j).body++[iI 22 (nth p.aa.ao j).ret])
 |0,h,_=>by omega
 |i+1,h,hi=>by
  rw[yX p i jB];have hl:=zo p i jB;by_cases e:j<i
  ·obtain⟨k,h1,post,h2⟩:=FV p j i e jB;refine⟨k,?_,post++(qN p (mR p) (nth p.aa.ao i).body (fp p i).ins.length++[iI 22 (nth p.aa.ao i).ret]),?_⟩
   ·show nth ((fp p i).entry++[_]) j=_;rw[pZ jB];exact h1
   ·show((fp p i).ins++_++_).drop k=_;have hk:k<=(fp p i).ins.length:=Classical.byContradiction fun hk=>by
     rw[List.drop_eq_nil_of_le jB]at h2;have:=congrArg List.length h2;simp at this
    rw[List.append_assoc,List.drop_append_of_le_length hk,h2,List.append_assoc]
  ·have:j=i:=jB;subst this;refine⟨(fp p j).ins.length,?_,[],?_⟩
   ·show nth ((fp p j).entry++[((fp p j).ins.length:Int)]) j=_;have:=qq (fp p j).entry ((fp p j).ins.length:Int);rw[hl]at this;exact this
   ·show((fp p j).ins++qN p (mR p) (nth p.aa.ao j).body (fp p j).ins.length++[iI 22 (nth p.aa.ao j).ret]).drop (fp p j).ins.length=_;rw[List.append_assoc,List.drop_left,List.append_nil];rfl
theorem CT{p:ab}(hs:fO p):∀i,i<=p.aa.ao.length->(fp p i).ins.length<=2000*i
 |0,_=>Nat.le_refl _
 |i+1,h=>by
  have ih:=CT hs i jB;rw[yX p i jB];have Wf:=n7 hs.ok.aa (k:=i) jB;have hc:=(hs.ao i jB).chain;have hm:=hs.ok.aa.many;have YD:=hs.ok.aa.body _ (fc (l:=p.aa.ao) (k:=i) jB);have Zj:=hs.ok.aa.shape (nth p.aa.ao i).body.toNat (by have:=Wf.1;have:=Wf.2;omega);have hb:=xT (p:=p) (f:=gv p (mR p)) (ak p (nth p.aa.ao i).body).l (fp p i).ins.length (kW p.aa i) (nth p.aa.ao i).body.toNat hc fun x hx k lo Yp=>by have hb:=Zj.2.1 x hx;have:=Wf.1;have:=Wf.2;exact C7 hs.ok.aa _ x k lo hb.1 jB (Zj.1.block YD x hx) Yp
  show((fp p i).ins++qN p (mR p) (nth p.aa.ao i).body (fp p i).ins.length++[iI 22 (nth p.aa.ao i).ret]).length<=_;rw[List.length_append,List.length_append,List.length_singleton];have:=Wf.1;have:=Wf.2;unfold qN;have:(nth p.aa.ao i).body.toNat<=300:=jB;omega
def rq(hs:fO p):uN p (bQ p):=by
 have e:bQ p=fp p p.aa.ao.length:=by unfold bQ fp;rw[List.take_length]
 have hf:=hs.ok.aa.ao;rw[e];exact⟨zo p _ jl,fun j hj=>FV p j _ hj jl,by have:=CT hs _ (Nat.le_refl p.aa.ao.length);omega⟩
def mh(p:ab)(C:aI):MV:=⟨[MV.iJ p C (iu p) []],0,[],0,[],0,0,0⟩
theorem Ga:∀(l:List bI) (i:Int) (x:bI),jQ (l++[x]) i=jQ l i++[⟨x.name,x.ty,i+l.length⟩]
 |[],i,x=>by simp[jQ]
 |y::l,i,x=>by
  have:=Ga l (i+1) x;simp only[List.cons_append,jQ,this,List.length_cons];congr 3
  simp only[bB.mk.injEq,true_and];omega
theorem xw:∀(l:List bI) (i:Int),(jQ l i).length=l.length
 |[],i=>rfl
 |y::l,i=>by simp only[jQ,List.length_cons,xw l (i+1)]
def Ap(h:nU p)(b:Int):(ak p b).l.length<=300:=by
 have hm:=h.aa.many;by_cases hb:b.toNat<p.aa.nodes.length
 ·obtain⟨lo,hc⟩:=(h.aa.shape b.toNat hb).2.2;have:=DB hc;show(nth p.aa.nodes b.toNat).l.length<=300;omega
 ·unfold ak nth;rw[List.getD_eq_getElem?_getD,List.getElem?_eq_none jB];exact Nat.zero_le _
end Go.Proofs.YtjpcgmjaipfgdaaGreatDoor
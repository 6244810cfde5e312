/- Lemmas. No conditions. -/
import Derived.Test.YtijdhbokcdpklaaGreatDoorSo9
set_option linter.all false
namespace Go.Gd
open Go
def iI(op a:Int):ay:=⟨op,a,0,sE⟩
def bw(f:Int->Int->List ay)(from_:Int):UP->List ay->List ay
 |[],out=>out
 |x::l,out=>bw f from_ l (out++f x (from_+out.length))
def lj(s:UR):Int:=if s=(⟨#[38,38]⟩:UR)then 18 else if s=(⟨#[124,124]⟩:UR)then 19 else 7
def bo(p:af):Nat->Int->Int->List ay
 |0,_,_=>[]
 |n+1,a,from_=>
  let nd:=au p a
  let x:=bo p n (nth nd.l 0) from_
  if nd.kind=1 then[iI 2 nd.n]
  else if nd.kind=2 then[iI 3 nd.n]
  else if nd.kind=3 then[⟨4,0,0,nd.name⟩]
  else if nd.kind=4 then[⟨5,nth p.slots a.toNat,nth p.types a.toNat,sE⟩]
  else if nd.kind=5 then x++[iI 11 (nth p.slots a.toNat)]
  else if nd.kind=6 then x++[iI 10 0]
  else if nd.kind=7 then x++[iI 8 0]
  else if nd.kind=8 then x++[iI 9 0]
  else if lj nd.name=7 then x++bo p n (nth nd.l 1) (from_+x.length)++[⟨7,0,0,nd.name⟩]
  else
   let y:=bo p n (nth nd.l 1) (from_+x.length+1)
   x++[iI (lj nd.name) (from_+x.length+1+y.length)]++y
def mZ(p:af):Nat:=p.aa.nodes.length
def Dj(p:af)(a:Int):Int:=jR bj.name (au p a).name p.aa.aw 0 (-1)
def cI(p:af)(n:Nat)(a from_:Int):List ay:=bw (bo p n) from_ (au p a).l []++[⟨20,Dj p a,(au p a).l.length,sE⟩]
def jy(p:af)(n:Nat)(a from_:Int):List ay:=
 if(au p a).kind=19 then[iI 14 0]
 else if(au p a).kind=20 then bo p n (nth (au p a).l 0) from_++[iI 13 0]
 else if(au p a).kind=21 then cI p n a from_
 else bo p n a from_
def qR(p:af)(n:Nat)(bl:Int->Int->List ay)(a from_:Int):List ay:=
 let nd:=au p a
 let x:=bo p n (nth nd.l 0) from_
 let b:=bl (nth nd.l 1) (from_+x.length+1)
 if nd.kind=16 then x++[iI 17 (from_+x.length+1+(b.length+1))]++(b++[iI 16 (from_-1)])
 else if nd.l.length=3 then
  let c:=bl (nth nd.l 2) (from_+x.length+1+b.length+1)
  x++[iI 17 (from_+x.length+1+(b.length+1))]++(b++[iI 16 (from_+x.length+1+b.length+1+c.length)])++c
 else x++[iI 17 (from_+x.length+1+b.length)]++b
def gm(p:af):Nat->Int->Int->List ay
 |0,_,_=>[]
 |n+1,a,from_=>
  let nd:=au p a
  let at_:=from_+1
  let x:=bo p n (nth nd.l 0) at_
  iI 1 a::(
   if nd.kind=10\/nd.kind=11 then jy p n (nth nd.l 0) at_++[iI 6 (nth p.slots a.toNat)]
   else if nd.kind=12 then x++bo p n (nth nd.l 1) (at_+x.length)++[iI 12 (nth p.slots a.toNat)]
   else if nd.kind=13 then cI p n (nth nd.l 0) at_++[iI 23 0]
   else if nd.kind=14 then x++[iI 15 0]
   else if nd.kind=17 then(if nd.l.length=0 then[iI 22 0]else x++[iI 21 0])
   else qR p n (fun b f=>bw (gm p n) f (au p b).l []) a at_)
def qJ(p:af)(n:Nat)(b from_:Int):List ay:=bw (gm p n) from_ (au p b).l []
def CJ(p:af)(c:aI)(f:bj):aI:=⟨c.ins++qJ p (mZ p) f.body c.ins.length++[iI 22 f.ret],c.entry++[(c.ins.length:Int)]⟩
def bA(p:af):aI:=p.aa.aw.foldl (CJ p) ⟨[],[]⟩
structure MC where
 fn:Int
 at_:Int
 mark:Int
 slots:List aj
 stack:List aj
 aT:Nat
 deriving Inhabited
structure MV where
 calls:List MC
 aT:Nat
 heap:List (List Int)
 in_:Int
 bC:List ByteArray
 status:Int
 dn:Int
 time:Int
namespace MC
def push(c:MC)(v:aj):MC:={ c with stack:=c.stack++[v],aT:=c.aT-1 }
def last(c:MC):aj:=nth c.stack (c.stack.length-1)
def cut(c:MC)(n:Nat):MC:={ c with stack:=c.stack.take (c.stack.length-n),aT:=c.aT+n }
def jump(c:MC)(a:Int):MC:={ c with at_:=a }
def back(c:MC):MC:={ c with at_:=c.mark,stack:=[],aT:=0 }
end MC
namespace MV
def ah(m:MV):MC:=nth m.calls (m.calls.length-1)
def aX(m:MV)(c:MC):MV:={ m with calls:=m.calls.set (m.calls.length-1) c }
def push(m:MV)(v:aj):MV:=m.aX (m.ah.push v)
def cut(m:MV)(n:Nat):MV:=m.aX (m.ah.cut n)
def stops(m:MV)(status dn:Int):MV:={ m.aX m.ah.back with status:=status,dn:=dn }
def eu(m:MV)(r:aj×Int):MV:=if r.2≠0 then m.stops 3 r.2 else m.push r.1
def pop(m:MV):MV:={ m with calls:=m.calls.take (m.calls.length-1),aT:=m.aT+1 }
def ends(m:MV)(v:aj):MV:=if m.calls.length<=1 then{ m.pop with status:=2 }else m.pop.push v
def I3(C:aI)(fn:Int):Int:=nth C.entry fn.toNat
def iF(p:af)(C:aI)(fn:Int)(args:List aj):MC:=⟨fn,I3 C fn,I3 C fn,args++List.replicate ((nth p.size fn.toNat)-args.length).toNat v0,[],0⟩
def cR(m:MV)(p:af)(C:aI)(fn:Int)(args:List aj):MV:={ m with calls:=m.calls++[iF p C fn args],aT:=m.aT-1 }
def bn(h:UO)(n:Int):UP:=if n<1\/(h.length:Int)<n then[]else nth h (n-1).toNat
def ins(m:MV)(p:af)(C:aI)(inp:UP)(x:ay):MV:=
 let c:=m.ah
 let l:=c.last
 let k:=(c.cut 1).last
 if x.op=2 then m.push (vI x.a)
 else if x.op=3 then m.push (vB (decide (x.a=1)))
 else if x.op=4 then m.push (vT x.s)
 else if x.op=5 then m.push (ff c.slots x.a x.b)
 else if x.op=6 then m.aX { c.cut 1 with slots:=c.slots.set x.a.toNat l }
 else if x.op=7 then(m.cut 2).eu (qu x.s k l)
 else if x.op=8 then(m.cut 1).push (mT (⟨#[45]⟩:UR) l)
 else if x.op=9 then(m.cut 1).push (mT (⟨#[33]⟩:UR) l)
 else if x.op=10 then(m.cut 1).push (vI (if l.ty=4 then((bn m.heap l.n).length:Int)else(l.s.size:Int)))
 else if x.op=11 then
  let L:=bn m.heap (ff c.slots x.a 4).n
  if l.n<0\/(L.length:Int)<=l.n then(m.cut 1).stops 3 2 else(m.cut 1).push (vI (nth L l.n.toNat))
 else if x.op=12 then
  let a:=(ff c.slots x.a 4).n
  if k.n<0\/((bn m.heap a).length:Int)<=k.n then(m.cut 2).stops 3 2
  else{ m.cut 2 with heap:=m.heap.set (a-1).toNat ((nth m.heap (a-1).toNat).set k.n.toNat l.n) }
 else if x.op=13 then
  if l.n<0\/16<l.n then(m.cut 1).stops 3 7
  else if 40<gw m.heap+l.n+1 then(m.cut 1).stops 3 4
  else{ (m.cut 1).push ⟨4,m.heap.length+1,sE⟩with heap:=m.heap++[List.replicate l.n.toNat 0] }
 else if x.op=14 then
  if(inp.length:Int)<=m.in_ then m.stops 1 0 else{ m.push (vI (nth inp m.in_.toNat))with in_:=m.in_+1 }
 else if x.op=15 then
  if 24<=m.bC.length then m.stops 3 5 else{ m.cut 1 with bC:=m.bC++[na l] }
 else if x.op=16 then m.aX (c.jump x.a)
 else if x.op=17 then(if l.n=0 then m.aX ((c.cut 1).jump x.a)else m.cut 1)
 else if x.op=18\/x.op=19 then(if(l.n=1<->x.op=19)then m.aX (c.jump x.a)else m.cut 1)
 else if x.op=20 then
  let m1:=m.cut x.b.toNat
  if 8<=m.calls.length then m1.stops 3 3 else m1.cR p C x.a (c.stack.drop (c.stack.length-x.b.toNat))
 else if x.op=21 then(m.cut 1).ends l
 else if x.op=22 then m.ends (vZ x.a)
 else if x.op=23 then m.cut 1
 else m
def bh(m:MV)(C:aI):ay:=nth C.ins m.ah.at_.toNat
def one(m:MV)(p:af)(C:aI)(inp:UP):MV:=(m.aX (m.ah.jump (m.ah.at_+1))).ins p C inp (m.bh C)
structure fP(m:MV)(p:af)(C:aI):Prop where
 calls:1<=m.calls.length
 nD:m.calls.length<=8
 a0:0<=m.ah.at_
 a1:m.ah.at_<C.ins.length
 one:(m.bh C).op=6\/(m.bh C).op=8\/(m.bh C).op=9\/(m.bh C).op=10\/(m.bh C).op=11\/(m.bh C).op=13\/(m.bh C).op=15\/(m.bh C).op=17\/(m.bh C).op=18\/(m.bh C).op=19\/(m.bh C).op=21\/(m.bh C).op=23->1<=m.ah.stack.length
 two:(m.bh C).op=7\/(m.bh C).op=12->2<=m.ah.stack.length
 slot:(m.bh C).op=5\/(m.bh C).op=6\/(m.bh C).op=11\/(m.bh C).op=12->0<=(m.bh C).a/\(m.bh C).a<m.ah.slots.length
 call:(m.bh C).op=20->0<=(m.bh C).b/\(m.bh C).b<=m.ah.stack.length/\(m.bh C).b<=3/\0<=(m.bh C).a/\(m.bh C).a<C.entry.length/\(m.bh C).a<p.size.length/\0<=nth p.size (m.bh C).a.toNat/\nth p.size (m.bh C).a.toNat<=24/\(m.bh C).b<=nth p.size (m.bh C).a.toNat
 op:1<=(m.bh C).op/\(m.bh C).op<=23
 word:(m.bh C).op=15->bE m.ah.last.n
 kg:∀v∈m.ah.stack,v.s.size<=40
 deep:m.ah.stack.length<=1000
end MV
def bQ(C:List ay)(k:Nat)(c:List ay):Prop:=∃post,C.drop k=c++post
variable{C:List ay}{k:Nat}
def bQ.app{a b:List ay}(h:bQ C k (a++b)):bQ C k a/\bQ C (k+a.length) b:=by obtain⟨post,e⟩:=h;refine⟨⟨b++post,by rw[e,List.append_assoc]⟩,⟨post,?_⟩⟩;rw[<-List.drop_drop,e,List.append_assoc,List.drop_left]
def bQ.head{x:ay}{c:List ay}(h:bQ C k (x::c)):k<C.length/\nth C k=x/\bQ C (k+1) c:=by
 obtain⟨post,e⟩:=h;have hk:k<C.length:=Classical.byContradiction fun h=>by rw[List.drop_eq_nil_of_le jB]at e;cases e
 refine⟨hk,?_,⟨post,?_⟩⟩
 ·rw[List.drop_eq_getElem_cons hk]at e;rw[fM hk];exact(List.cons.inj e).1
 ·rw[List.drop_eq_getElem_cons hk]at e;exact(List.cons.inj e).2
def bQ.last{x:ay}{c:List ay}(h:bQ C k (c++[x])):bQ C k c/\k+c.length<C.length/\nth C (k+c.length)=x:=
 ⟨h.app.1,h.app.2.head.1,h.app.2.head.2.1⟩
theorem vQ(f:Int->Int->List ay):∀(L:UP) (k:Int) (out:List ay),bw f k L out=out++bw f (k+out.length) L []
 |[],k,out=>by simp[bw]
 |x::L,k,out=>by show bw f k L (out++f x (k+out.length))=out++bw f (k+out.length) L ([]++f x (k+out.length+(0:Nat)));rw[vQ f L k,vQ f L (k+out.length) _];simp only[List.nil_append,List.length_append,List.append_assoc,Int.natCast_add,Int.natCast_zero,Int.add_zero,Int.add_assoc]
theorem C4(f:Int->Int->List ay):∀(A B:UP) (k:Int) (out:List ay),bw f k (A++B) out=bw f k B (bw f k A out)
 |[],B,k,out=>rfl
 |x::A,B,k,out=>C4 f A B k _
theorem GZ{f g:Int->Int->List ay}:∀(L:UP) (k:Int) (out:List ay),(∀x∈L,∀j,f x j=g x j)->bw f k L out=bw g k L out
 |[],_,_,_=>rfl
 |x::L,k,out,h=>by show bw f k L (out++f x _)=bw g k L (out++g x _);rw[h x jE,GZ L k _ fun y hy=>h y (by simp[hy])]
namespace MV
variable{M:MV}
def bp(h:1<=M.calls.length)(c:MC):(M.aX c).ah=c:=by show nth (M.calls.set _ c) ((M.calls.set _ c).length-1)=c;rw[List.length_set];exact(Go.Gd.dG _ _ _ _ jB).trans (if_pos rfl)
def dx(M:MV)(c d:MC):(M.aX c).aX d=M.aX d:=by show({ M with calls:=(M.calls.set _ c).set ((M.calls.set _ c).length-1) d }:MV)=_;rw[List.length_set,List.set_set];rfl
def bP(M:MV)(c:MC):(M.aX c).calls.length=M.calls.length:=by show(M.calls.set _ c).length=_;simp
def rT(M:MV)(h:1<=M.calls.length):M.aX M.ah=M:=by show({ M with calls:=M.calls.set (M.calls.length-1) (nth M.calls (M.calls.length-1)) }:MV)=M;rw[fM jB,List.set_getElem_self]
def ky(M:MV)(c:MC):(M.aX c).heap=M.heap:=rfl
def jc(M:MV)(c:MC)(s t:Int):MV:={ M.aX c.back with status:=s,dn:=t }
def eK(h:1<=M.calls.length)(c:MC)(s t:Int):(M.aX c).stops s t=M.jc c s t:=by unfold stops jc;rw[bp h,dx]
def fw(h:1<=M.calls.length)(c:MC)(v:aj):(M.aX c).push v=M.aX (c.push v):=by unfold push;rw[bp h,dx]
def db(h:1<=M.calls.length)(c:MC)(n:Nat):(M.aX c).cut n=M.aX (c.cut n):=by unfold cut;rw[bp h,dx]
end MV
section
variable (m:MV)(p:af)(C:aI)(inp:UP)(a b:Int)(s:UR)
def MV.rq:m.ins p C inp (iI 2 a)=m.push (vI a):=rfl
def MV.pL:m.ins p C inp (iI 3 a)=m.push (vB (decide (a=1))):=rfl
def MV.pZ:m.ins p C inp ⟨4,a,b,s⟩=m.push (vT s):=rfl
def MV.p7:m.ins p C inp ⟨5,a,b,s⟩=m.push (ff m.ah.slots a b):=rfl
def MV.oS:m.ins p C inp (iI 6 a)=m.aX { m.ah.cut 1 with slots:=m.ah.slots.set a.toNat m.ah.last }:=rfl
def MV.rX:m.ins p C inp ⟨7,a,b,s⟩=(m.cut 2).eu (qu s (m.ah.cut 1).last m.ah.last):=rfl
def MV.rj:m.ins p C inp (iI 8 a)=(m.cut 1).push (mT (⟨#[45]⟩:UR) m.ah.last):=rfl
def MV.rk:m.ins p C inp (iI 9 a)=(m.cut 1).push (mT (⟨#[33]⟩:UR) m.ah.last):=rfl
def MV.iH:m.ins p C inp (iI 10 a)=(m.cut 1).push (vI (if m.ah.last.ty=4 then((bn m.heap m.ah.last.n).length:Int)else(m.ah.last.s.size:Int))):=rfl
def MV.oz:m.ins p C inp (iI 11 a)=if m.ah.last.n<0\/((bn m.heap (ff m.ah.slots a 4).n).length:Int)<=m.ah.last.n then(m.cut 1).stops 3 2 else(m.cut 1).push (vI (nth (bn m.heap (ff m.ah.slots a 4).n) m.ah.last.n.toNat)):=rfl
def MV.rN:m.ins p C inp (iI 12 a)=if(m.ah.cut 1).last.n<0\/((bn m.heap (ff m.ah.slots a 4).n).length:Int)<=(m.ah.cut 1).last.n then(m.cut 2).stops 3 2
  else{ m.cut 2 with heap:=m.heap.set ((ff m.ah.slots a 4).n-1).toNat ((nth m.heap ((ff m.ah.slots a 4).n-1).toNat).set (m.ah.cut 1).last.n.toNat m.ah.last.n) }:=rfl
def MV.qT:m.ins p C inp (iI 13 a)=if m.ah.last.n<0\/16<m.ah.last.n then(m.cut 1).stops 3 7
  else if 40<gw m.heap+m.ah.last.n+1 then(m.cut 1).stops 3 4
  else{ (m.cut 1).push ⟨4,m.heap.length+1,sE⟩with heap:=m.heap++[List.replicate m.ah.last.n.toNat 0] }:=rfl
def MV.oY:m.ins p C inp (iI 14 a)=if(inp.length:Int)<=m.in_ then m.stops 1 0 else{ m.push (vI (nth inp m.in_.toNat))with in_:=m.in_+1 }:=rfl
def MV.oB:m.ins p C inp (iI 15 a)=if 24<=m.bC.length then m.stops 3 5 else{ m.cut 1 with bC:=m.bC++[na m.ah.last] }:=rfl
def MV.mj:m.ins p C inp (iI 16 a)=m.aX (m.ah.jump a):=rfl
def MV.ow:m.ins p C inp (iI 17 a)=if m.ah.last.n=0 then m.aX ((m.ah.cut 1).jump a)else m.cut 1:=rfl
def MV.rH:m.ins p C inp (iI 18 a)=if m.ah.last.n=1 then m.cut 1 else m.aX (m.ah.jump a):=by
 show(if(m.ah.last.n=1<->(18:Int)=19)then m.aX (m.ah.jump a)else m.cut 1)=_;by_cases h:m.ah.last.n=1
 ·rw[if_pos h,if_neg (fun e=>absurd (e.1 h) jC)]
 ·rw[if_neg h,if_pos ⟨fun e=>(h e).elim,fun e=>absurd e jC⟩]
def MV.tX:m.ins p C inp (iI 19 a)=if m.ah.last.n=1 then m.aX (m.ah.jump a)else m.cut 1:=by
 show(if(m.ah.last.n=1<->(19:Int)=19)then m.aX (m.ah.jump a)else m.cut 1)=_;by_cases h:m.ah.last.n=1
 ·rw[if_pos h,if_pos ⟨fun _=>rfl,fun _=>h⟩]
 ·rw[if_neg h,if_neg (fun e=>h (e.2 rfl))]
def MV.qg:m.ins p C inp ⟨20,a,b,s⟩=if 8<=m.calls.length then(m.cut b.toNat).stops 3 3 else(m.cut b.toNat).cR p C a (m.ah.stack.drop (m.ah.stack.length-b.toNat)):=rfl
def MV.sj:m.ins p C inp (iI 21 a)=(m.cut 1).ends m.ah.last:=rfl
def MV.q9:m.ins p C inp (iI 23 a)=m.cut 1:=rfl
end
inductive eo(p:af)(C:aI)(inp:List Int):Nat->MV->MV->Prop
 |refl (m:MV):eo p C inp 0 m m
 |step {n:Nat} {m m':MV} (h0:m.status=0) (h1:(m.bh C).op≠1) (hok:m.fP p C) (h:eo p C inp n (m.one p C inp) m'):eo p C inp (n+1) m m'
def bf(p:af)(C:aI)(inp:UP)(m m':MV):Prop:=∃n,eo p C inp n m m'
theorem bf.refl{p:af}{C:aI}{inp:UP}(m:MV):bf p C inp m m:=⟨0,.refl m⟩
def eo.trans{p:af}{C:aI}{inp:UP}{n:Nat}{a b:MV}(h:eo p C inp n a b):∀{k c},eo p C inp k b c->eo p C inp (n+k) a c:=by
 induction h with
 |refl m=>intro k c hk;rw[Nat.zero_add];exact hk
 |step h0 h1 hok _ ih=>intro k c hk;rw[Nat.add_right_comm];exact .step h0 h1 hok (ih hk)
theorem bf.trans{p:af}{C:aI}{inp:UP}{a b c:MV}(h:bf p C inp a b)(k:bf p C inp b c):bf p C inp a c:=by obtain⟨n,h⟩:=h;obtain⟨m,k⟩:=k;exact⟨n+m,h.trans k⟩
theorem bf.ins{p:af}{C:aI}{inp:UP}{M m':MV}{c:MC}{k:Nat}{x:ay}(h1:1<=M.calls.length)(h8:M.calls.length<=8)(hs:M.status=0)(hk:c.at_=k)(I':k<C.ins.length)(hx:nth C.ins k=x)(Xb:x.op≠1)
  (hok:(M.aX c).fP p C) (hg:bf p C inp ((M.aX { c with at_:=(k:Int)+1 }).ins p C inp x) m'):bf p C inp (M.aX c) m':=by
 obtain⟨n,hg⟩:=hg;have hi:(M.aX c).bh C=x:=by unfold MV.bh;rw[MV.bp h1,hk,Int.toNat_natCast,hx]
 refine⟨n+1,.step hs (by rw[hi];exact Xb) hok ?_⟩;unfold MV.one;rw[hi,MV.bp h1,MV.dx];unfold MC.jump;rw[hk];exact hg
def fP.Tr{p:af}{C:aI}{M:MV}{c:MC}{x:ay}(h1:1<=M.calls.length)(h8:M.calls.length<=8)(hk:c.at_=k)(I':k<C.ins.length)(hx:nth C.ins k=x)
  (one:x.op=6\/x.op=8\/x.op=9\/x.op=10\/x.op=11\/x.op=13\/x.op=15\/x.op=17\/x.op=18\/x.op=19\/x.op=21\/x.op=23->1<=c.stack.length)
  (two:x.op=7\/x.op=12->2<=c.stack.length)
  (slot:x.op=5\/x.op=6\/x.op=11\/x.op=12->0<=x.a/\x.a<c.slots.length)
  (call:x.op=20->0<=x.b/\x.b<=c.stack.length/\x.b<=3/\0<=x.a/\x.a<C.entry.length/\x.a<p.size.length/\0<=nth p.size x.a.toNat/\nth p.size x.a.toNat<=24/\x.b<=nth p.size x.a.toNat)
  (op:1<=x.op/\x.op<=23) (word:x.op=15->bE c.last.n) (kg:∀v∈c.stack,v.s.size<=40) (deep:c.stack.length<=1000):(M.aX c).fP p C:=by
 have hi:(M.aX c).bh C=x:=by unfold MV.bh;rw[MV.bp h1,hk,Int.toNat_natCast,hx]
 have ht:=MV.bp h1 c;refine⟨by rw[MV.bP];exact h1,by rw[MV.bP];exact h8,by rw[ht,hk];omega,by rw[ht,hk];omega,?_,?_,?_,?_,?_,?_,?_,?_⟩
 ·rw[hi,ht];exact one
 ·rw[hi,ht];exact two
 ·rw[hi,ht];exact slot
 ·rw[hi,ht];exact call
 ·rw[hi];exact op
 ·rw[hi,ht];exact word
 ·rw[ht];exact kg
 ·rw[ht];exact deep
def Ey(p:af)(n:Nat)(k:Nat)(b:Int):List ay:=bw (gm p n) k (wN p b) []
structure uH(p:af)(C:aI):Prop where
 len:C.entry.length=p.aa.aw.length
 at_:∀j,j<p.aa.aw.length->∃k:Nat,nth C.entry j=(k:Int)/\bQ C.ins k (Ey p (mZ p) k (nth p.aa.aw j).body++[iI 22 (nth p.aa.aw j).ret])
 px:C.ins.length<=1000000
def MV.eH(m:MV):MV:={ m.aX { m.ah with mark:=m.ah.at_,at_:=m.ah.at_+1 }with status:=0 }
def MV.dF(m:MV)(C:aI):Prop:=m.status≠0\/(m.bh C).op=1
def MV.fD(m:MV):MV:={ m with time:=if m.status=1 then m.time else m.time+1 }
def qE(p:af)(x:Int):bI:=⟨(au p x).name,nth p.types (nth (au p x).l 0).toNat,nth p.slots x.toNat⟩
def pk(w:Int->List bI->Option (List bI))(vars:List bI):UP->Option (List bI)
 |[]=>none
 |b::l=>(w b vars).or (pk w vars l)
def l9(p:af)(x:Int)(vars:List bI):List bI:=if(au p x).kind=10 then vars++[qE p x]else vars
def pS(w:Int->List bI->Option (List bI))(p:af)(node:Int):UP->List bI->Option (List bI)
 |[],_=>none
 |x::l,vars=>
  if x=node then some vars
  else(if(au p x).kind=15\/(au p x).kind=16 then pk w (l9 p x vars) ((au p x).l.drop 1)else none).or (pS w p node l (l9 p x vars))
def lG(p:af)(node:Int):Nat->Int->List bI->Option (List bI)
 |0,_,_=>none
 |n+1,b,vars=>pS (lG p node n) p node (au p b).l vars
def kR:List bM->Int->List bI
 |[],_=>[]
 |x::l,i=>⟨x.name,x.ty,i⟩::kR l (i+1)
def ii(p:af)(node:Int):List bI:=
 (lG p node p.aa.nodes.length (nth p.aa.aw (nth p.fn node.toNat).toNat).body (kR (nth p.aa.aw (nth p.fn node.toNat).toNat).params 0)).getD []
end Go.Gd
namespace Go.Gd.MV
open Go
def fi(c:MC)(v:aj)(st:List aj)(a:Int)(q:Nat):MC.last { c with at_:=a,stack:=st++[v],aT:=q }=v:=by show nth (st++[v]) ((st++[v]).length-1)=v;rw[List.length_append,List.length_singleton,Nat.add_sub_cancel];exact qL _ _
def fN(c:MC)(v:aj)(st:List aj)(a:Int)(q:Nat):MC.cut { c with at_:=a,stack:=st++[v],aT:=q } 1={ c with at_:=a,stack:=st,aT:=q+1 }:=by show MC.mk c.fn a c.mark c.slots ((st++[v]).take ((st++[v]).length-1)) (q+1)=_;rw[List.length_append,List.length_singleton,Nat.add_sub_cancel,List.take_left]
def oR(c:MC)(u v:aj)(st:List aj)(a:Int)(q:Nat):MC.cut { c with at_:=a,stack:=st++[u]++[v],aT:=q } 2={ c with at_:=a,stack:=st,aT:=q+2 }:=by show MC.mk c.fn a c.mark c.slots ((st++[u]++[v]).take ((st++[u]++[v]).length-2)) (q+2)=_;rw[List.append_assoc,List.length_append,show([u]++[v]).length=2 from rfl,Nat.add_sub_cancel,List.take_left]
end Go.Gd.MV
namespace Go.Proofs.YtijdhbokcdpklaaGreatDoor
open Go Go.Gd
def jq(p:af)(j:Nat)(a:Int):Prop:=kS p.aa j<=a.toNat/\a.toNat<=(nth p.aa.aw j).body.toNat
variable{p:af}{a:Int}
def jq.aF(h:gi p){j:Nat}(hj:j<p.aa.aw.length){b:Int}(hi:jq p j a)(hb:b∈(au p a).l):jq p j b/\0<=b/\b.toNat<a.toNat/\b.toNat<p.aa.nodes.length:=by
 have Wi:=pB h.ok.aa hj;have ha:a.toNat<p.aa.nodes.length:=by have:=hi.2;have:=Wi.1;have:=Wi.2;omega
 have h1:=(h.ok.aa.shape a.toNat ha).2.1 b hb;have hc:=(h.aw j hj).chain;have h2:=hi.2;have h3:=hi.1;refine⟨⟨?_,jB⟩,h1.1,h1.2,jB⟩;by_cases e:a.toNat<(nth p.aa.aw j).body.toNat
 ·exact hc.closed _ h3 e b hb
 ·have e:a.toNat=(nth p.aa.aw j).body.toNat:=jB;have VQ:b∈(nth p.aa.nodes a.toNat).l:=hb;rw[e]at VQ;exact(hc.mem b VQ).2.1
def TF{α:Type}{P:α->Prop}{l:List α}{x:α}(h:∀v∈l,P v)(hx:P x):∀v∈l++[x],P v:=fun v hv=>by
 rcases List.mem_append.1 hv with hv|hv
 ·exact h v hv
 ·rw[List.mem_singleton.1 hv];exact hx
def mc(p:af)(n:Nat)(a k:Int):bo p (n+1) a k=(
  if(au p a).kind=1 then[iI 2 (au p a).n]
  else if(au p a).kind=2 then[iI 3 (au p a).n]
  else if(au p a).kind=3 then[⟨4,0,0,(au p a).name⟩]
  else if(au p a).kind=4 then[⟨5,nth p.slots a.toNat,nth p.types a.toNat,sE⟩]
  else if(au p a).kind=5 then bo p n (nth (au p a).l 0) k++[iI 11 (nth p.slots a.toNat)]
  else if(au p a).kind=6 then bo p n (nth (au p a).l 0) k++[iI 10 0]
  else if(au p a).kind=7 then bo p n (nth (au p a).l 0) k++[iI 8 0]
  else if(au p a).kind=8 then bo p n (nth (au p a).l 0) k++[iI 9 0]
  else if lj (au p a).name=7 then bo p n (nth (au p a).l 0) k++bo p n (nth (au p a).l 1) (k+(bo p n (nth (au p a).l 0) k).length)++[⟨7,0,0,(au p a).name⟩]
  else bo p n (nth (au p a).l 0) k++[iI (lj (au p a).name) (k+(bo p n (nth (au p a).l 0) k).length+1+(bo p n (nth (au p a).l 1) (k+(bo p n (nth (au p a).l 0) k).length+1)).length)]++bo p n (nth (au p a).l 1) (k+(bo p n (nth (au p a).l 0) k).length+1)):=rfl
variable{n:Nat}{bl:Int->Int->List ay}{k:Int}
def HY(hk:(au p a).kind=16):qR p n bl a k=bo p n (nth (au p a).l 0) k++[iI 17 (k+(bo p n (nth (au p a).l 0) k).length+1+((bl (nth (au p a).l 1) (k+(bo p n (nth (au p a).l 0) k).length+1)).length+1))]++(bl (nth (au p a).l 1) (k+(bo p n (nth (au p a).l 0) k).length+1)++[iI 16 (k-1)]):=by unfold qR;simp only;rw[if_pos hk]
def Ek(hk:(au p a).kind=15)(hl:(au p a).l.length=3):qR p n bl a k=bo p n (nth (au p a).l 0) k++[iI 17 (k+(bo p n (nth (au p a).l 0) k).length+1+((bl (nth (au p a).l 1) (k+(bo p n (nth (au p a).l 0) k).length+1)).length+1))]++(bl (nth (au p a).l 1) (k+(bo p n (nth (au p a).l 0) k).length+1)++[iI 16 (k+(bo p n (nth (au p a).l 0) k).length+1+(bl (nth (au p a).l 1) (k+(bo p n (nth (au p a).l 0) k).length+1)).length+1+(bl (nth (au p a).l 2) (k+(bo p n (nth (au p a).l 0) k).length+1+(bl (nth (au p a).l 1) (k+(bo p n (nth (au p a).l 0) k).length+1)).length+1)).length)])++bl (nth (au p a).l 2) (k+(bo p n (nth (au p a).l 0) k).length+1+(bl (nth (au p a).l 1) (k+(bo p n (nth (au p a).l 0) k).length+1)).length+1):=by unfold qR;simp only;rw[jN,if_pos hl]
def JO(hk:(au p a).kind=15)(hl:(au p a).l.length≠3):qR p n bl a k=bo p n (nth (au p a).l 0) k++[iI 17 (k+(bo p n (nth (au p a).l 0) k).length+1+(bl (nth (au p a).l 1) (k+(bo p n (nth (au p a).l 0) k).length+1)).length)]++bl (nth (au p a).l 1) (k+(bo p n (nth (au p a).l 0) k).length+1):=by unfold qR;simp only;rw[jN,if_neg hl]
def MV.sd{m:MV}(h:2<=m.calls.length):m.pop.ah=nth m.calls (m.calls.length-1-1):=by show nth (m.calls.take (m.calls.length-1)) ((m.calls.take (m.calls.length-1)).length-1)=_;rw[List.length_take,show min (m.calls.length-1) m.calls.length=m.calls.length-1 from jB,gP _ _ _ jB]
def yz(p:af)(n:Nat)(a k:Int):gm p (n+1) a k=iI 1 a::(
  if(au p a).kind=10\/(au p a).kind=11 then jy p n (nth (au p a).l 0) (k+1)++[iI 6 (nth p.slots a.toNat)]
  else if(au p a).kind=12 then bo p n (nth (au p a).l 0) (k+1)++bo p n (nth (au p a).l 1) (k+1+(bo p n (nth (au p a).l 0) (k+1)).length)++[iI 12 (nth p.slots a.toNat)]
  else if(au p a).kind=13 then cI p n (nth (au p a).l 0) (k+1)++[iI 23 0]
  else if(au p a).kind=14 then bo p n (nth (au p a).l 0) (k+1)++[iI 15 0]
  else if(au p a).kind=17 then(if(au p a).l.length=0 then[iI 22 0]else bo p n (nth (au p a).l 0) (k+1)++[iI 21 0])
  else qR p n (fun b f=>bw (gm p n) f (au p b).l []) a (k+1)):=rfl
def ud(p:af)(n:Nat)(a k:Int):jy p n a k=(if(au p a).kind=19 then[iI 14 0]else if(au p a).kind=20 then bo p n (nth (au p a).l 0) k++[iI 13 0]else if(au p a).kind=21 then cI p n a k else bo p n a k):=rfl
theorem mC{p:af}(ht:aR p.aa):∀(n:Nat) (a k:Int) (lo:Nat),0<=a->a.toNat<p.aa.nodes.length->cS (bX p.aa.nodes a)->aL p.aa.nodes lo (au p a).l a.toNat->(bo p n a k).length+4*lo<=4*(a.toNat+1)
 |0,a,k,lo,h0,hl,hk,hc=>by have:=hc.le;show 0+_<=_;omega
 |n+1,a,k,lo,h0,hl,hk,hc=>by
  have U6:=hc.le;have sh:=(ht.shape a.toNat hl).1;have Vk:cS (au p a).kind:=hk;unfold cS at Vk;rw[mc];have one:∀x,(au p a).l=[x]->cS (bX p.aa.nodes x)->(bo p n (nth (au p a).l 0) k).length+1+4*lo<=4*(a.toNat+1):=fun x u' hx=>by rw[u']at hc;obtain⟨c1,c2,c3,c4,c5⟩:=kG hc;have:=mC ht n x k lo c1 jB hx c5;rw[u'];show(bo p n x k).length+1+_<=_;omega
  have VG:(au p a).kind=1\/(au p a).kind=2\/(au p a).kind=3\/(au p a).kind=4\/(au p a).kind=5\/(au p a).kind=6\/(au p a).kind=7\/(au p a).kind=8\/(au p a).kind=9:=jB;rcases VG with e|e|e|e|e|e|e|e|e<;>simp only[e,Int.reduceEq,↓reduceIte,List.length_append,List.length_cons,List.length_nil]
  ·omega
  ·omega
  ·omega
  ·omega
  ·obtain⟨x,u',hx⟩:=sh.one (.inl e);have:=one x u' hx;omega
  ·obtain⟨x,u',hx⟩:=sh.one (by have e:(nth p.aa.nodes a.toNat).kind=6:=e;omega);have:=one x u' hx;omega
  ·obtain⟨x,u',hx⟩:=sh.one (by have e:(nth p.aa.nodes a.toNat).kind=7:=e;omega);have:=one x u' hx;omega
  ·obtain⟨x,u',hx⟩:=sh.one (by have e:(nth p.aa.nodes a.toNat).kind=8:=e;omega);have:=one x u' hx;omega
  ·obtain⟨x,y,u',hx,hy⟩:=sh.two (.inl e);have u':(au p a).l=[x,y]:=u';rw[u']at hc;obtain⟨c1,c2,c3,c4,c5,c6⟩:=kM hc;obtain⟨d1,d2,d3,d4,d5⟩:=kG c6;have e1:=fun k=>mC ht n x k lo c1 jB hx c5
   have e2:=fun k=>mC ht n y k (x.toNat+1) d1 jB hy d5
   rw[u',show nth [x,y] 0=x from rfl,show nth [x,y] 1=y from rfl];split
   ·simp only[List.length_append,List.length_cons,List.length_nil];have:=e1 k;have:=e2 (k+(bo p n x k).length);omega
   ·simp only[List.length_append,List.length_cons,List.length_nil];have:=e1 k;have:=e2 (k+(bo p n x k).length+1);omega
theorem xT{p:af}{f:Int->Int->List ay}:∀(L:UP) (k:Int) (lo hi:Nat),aL p.aa.nodes lo L hi->(∀x∈L,∀k lo,aL p.aa.nodes lo (au p x).l x.toNat->(f x k).length+4*lo<=4*(x.toNat+1))->(bw f k L []).length+4*lo<=4*hi
 |[],k,lo,hi,hc,h=>by cases hc;show 0+_<=_;omega
 |x::L,k,lo,hi,hc,h=>by
  show(bw f k L ([]++f x (k+((0:Nat):Int)))).length+_<=_;rw[vQ,List.nil_append,List.length_append];obtain⟨c1,c2,c3,c4,c5,c6⟩:=kM hc;have h1:=h x jE (k+((0:Nat):Int)) lo c5;have h2:=xT L (k+(f x (k+((0:Nat):Int))).length) _ hi c6 fun y hy=>h y (by simp[hy])
  omega
def AZ(ht:aR p.aa)(n:Nat)(k:Int)(lo:Nat)(hl:a.toNat<p.aa.nodes.length)(hk:(au p a).kind=21)(hc:aL p.aa.nodes lo (au p a).l a.toNat):(cI p n a k).length+4*lo<=4*(a.toNat+1):=by
 have Y4:=ht.shape a.toNat hl;have:=xT (f:=bo p n) (au p a).l k lo a.toNat hc fun x hx k lo Yh=>by have hb:=Y4.2.1 x hx;exact mC ht n x k lo hb.1 jB (Y4.1.call hk x hx) Yh
 unfold cI;rw[List.length_append,List.length_singleton];omega
def D3(ht:aR p.aa)(n:Nat)(k:Int)(lo:Nat)(h0:0<=a)(hl:a.toNat<p.aa.nodes.length)(hk:fy (bX p.aa.nodes a))(hc:aL p.aa.nodes lo (au p a).l a.toNat):(jy p n a k).length+4*lo<=4*(a.toNat+1):=by
 have U6:=hc.le;rw[ud];split
 ·simp only[List.length_cons,List.length_nil];omega
 rename_i e19;split
 ·rename_i e;obtain⟨x,u',hx⟩:=(ht.shape a.toNat hl).1.one (by have e:(nth p.aa.nodes a.toNat).kind=20:=e;omega);have u':(au p a).l=[x]:=u';rw[u']at hc;obtain⟨c1,c2,c3,c4,c5⟩:=kG hc;have:=mC ht n x k lo c1 jB hx c5;rw[u',List.length_append,List.length_singleton];show(bo p n x k).length+1+_<=_;omega
 rename_i e20;split
 ·rename_i e;exact AZ ht n k lo hl e hc
 ·rename_i e21;refine mC ht n a k lo h0 hl ?_ hc;rcases hk with hk|hk|hk|hk
  ·exact hk
  ·exact(e19 hk).elim
  ·exact(e20 hk).elim
  ·exact(e21 hk).elim
theorem DS{p:af}(ht:aR p.aa):∀(n:Nat) (a k:Int) (lo:Nat),0<=a->a.toNat<p.aa.nodes.length->fA (bX p.aa.nodes a)->aL p.aa.nodes lo (au p a).l a.toNat->(gm p n a k).length+4*lo<=4*(a.toNat+1)
 |0,a,k,lo,h0,hl,hk,hc=>by have:=hc.le;show 0+_<=_;omega
 |n+1,a,k,lo,h0,hl,hk,hc=>by
  have U6:=hc.le;have sh:=(ht.shape a.toNat hl).1;have Vk:fA (au p a).kind:=hk;unfold fA at Vk;rw[yz,List.length_cons];have blk:∀(b:Int) (lo:Nat) (k:Int),0<=b->b.toNat<p.aa.nodes.length->bX p.aa.nodes b=18->aL p.aa.nodes lo (au p b).l b.toNat->(bw (gm p n) k (au p b).l []).length+4*lo<=4*b.toNat:=fun b lo k b0 b1 b2 b3=>
   xT (au p b).l k lo b.toNat b3 fun x hx k lo Yh=>by have hb:=(ht.shape b.toNat b1).2.1 x hx;exact DS ht n x k lo hb.1 jB ((ht.shape b.toNat b1).1.block b2 x hx) Yh
  split
  ·rename_i e;obtain⟨x,u',hx⟩:=sh.right e;have u':(au p a).l=[x]:=u';rw[u']at hc;obtain⟨c1,c2,c3,c4,c5⟩:=kG hc;have:=D3 ht n (k+1) lo c1 jB hx c5;rw[u',List.length_append,List.length_singleton];show(jy p n x (k+1)).length+1+1+_<=_;omega
  split
  ·rename_i e;obtain⟨x,y,u',hx,hy⟩:=sh.two (.inr e);have u':(au p a).l=[x,y]:=u';rw[u']at hc;obtain⟨c1,c2,c3,c4,c5,c6⟩:=kM hc;obtain⟨d1,d2,d3,d4,d5⟩:=kG c6;have e1:=mC ht n x (k+1) lo c1 jB hx c5;have e2:=mC ht n y (k+1+(bo p n x (k+1)).length) (x.toNat+1) d1 jB hy d5;rw[u',show nth [x,y] 0=x from rfl,show nth [x,y] 1=y from rfl];simp only[List.length_append,List.length_cons,List.length_nil];omega
  split
  ·rename_i e;obtain⟨x,u',hx⟩:=sh.tn e;have u':(au p a).l=[x]:=u';rw[u']at hc;obtain⟨c1,c2,c3,c4,c5⟩:=kG hc;have:=AZ ht n (k+1) lo jB hx c5;rw[u',List.length_append,List.length_singleton];show(cI p n x (k+1)).length+1+1+_<=_;omega
  split
  ·rename_i e;obtain⟨x,u',hx⟩:=sh.one (by have e:(nth p.aa.nodes a.toNat).kind=14:=e;omega);have u':(au p a).l=[x]:=u';rw[u']at hc;obtain⟨c1,c2,c3,c4,c5⟩:=kG hc;have:=mC ht n x (k+1) lo c1 jB hx c5;rw[u',List.length_append,List.length_singleton];show(bo p n x (k+1)).length+1+1+_<=_;omega
  split
  ·rename_i e;rcases sh.ret e with u'|⟨x,u',hx⟩
   ·have u':(au p a).l=[]:=u';rw[u',if_pos (show([]:UP).length=0 from rfl)];simp only[List.length_cons,List.length_nil];omega
   ·have u':(au p a).l=[x]:=u';rw[u']at hc;obtain⟨c1,c2,c3,c4,c5⟩:=kG hc;have:=mC ht n x (k+1) lo c1 jB hx c5;rw[u',if_neg jE,List.length_append,List.length_singleton];show(bo p n x (k+1)).length+1+1+_<=_;omega
  ·rename_i n1 n2 n3 n4 n5;by_cases k16:(au p a).kind=16
   ·rw[HY k16];obtain⟨x,b,u',hx,hb⟩:=sh.eF k16;have u':(au p a).l=[x,b]:=u';rw[u']at hc;obtain⟨c1,c2,c3,c4,c5,c6⟩:=kM hc;obtain⟨d1,d2,d3,d4,d5⟩:=kG c6;rw[u',show nth [x,b] 0=x from rfl,show nth [x,b] 1=b from rfl];have e1:=mC ht n x (k+1) lo c1 jB hx c5;have e2:=blk b (x.toNat+1) (k+1+(bo p n x (k+1)).length+1) d1 jB hb d5;simp only[List.length_append,List.length_cons,List.length_nil];omega
   have k15:(au p a).kind=15:=jB;obtain⟨x,b,hx,hb,u'⟩:=sh.lA k15;rcases u' with u'|⟨d,u',hd⟩
   ·have u':(au p a).l=[x,b]:=u';rw[JO k15 (by rw[u'];simp)];rw[u']at hc;obtain⟨c1,c2,c3,c4,c5,c6⟩:=kM hc;obtain⟨d1,d2,d3,d4,d5⟩:=kG c6;rw[u',show nth [x,b] 0=x from rfl,show nth [x,b] 1=b from rfl];have e1:=mC ht n x (k+1) lo c1 jB hx c5;have e2:=blk b (x.toNat+1) (k+1+(bo p n x (k+1)).length+1) d1 jB hb d5;simp only[List.length_append,List.length_cons,List.length_nil];omega
   ·have u':(au p a).l=[x,b,d]:=u';rw[Ek k15 (by rw[u'];rfl)];rw[u']at hc;obtain⟨c1,c2,c3,c4,c5,c6⟩:=kM hc;obtain⟨d1,d2,d3,d4,d5,d6⟩:=kM c6;obtain⟨g1,g2,g3,g4,g5⟩:=kG d6;rw[u',show nth [x,b,d] 0=x from rfl,show nth [x,b,d] 1=b from rfl,show nth [x,b,d] 2=d from rfl];have e1:=mC ht n x (k+1) lo c1 jB hx c5;have e2:=blk b (x.toNat+1) (k+1+(bo p n x (k+1)).length+1) d1 jB hb d5;have e3:=blk d (b.toNat+1) (k+1+(bo p n x (k+1)).length+1+(bw (gm p n) (k+1+(bo p n x (k+1)).length+1) (au p b).l []).length+1) g1 jB hd g5;simp only[List.length_append,List.length_cons,List.length_nil];omega
def fk(p:af)(i:Nat):aI:=(p.aa.aw.take i).foldl (CJ p) ⟨[],[]⟩
def zT(p:af)(i:Nat)(h:i<p.aa.aw.length):fk p (i+1)=CJ p (fk p i) (nth p.aa.aw i):=by unfold fk;rw[RU _ _ h,List.foldl_append];rfl
theorem Aw(p:af):∀i,i<=p.aa.aw.length->(fk p i).entry.length=i
 |0,_=>rfl
 |i+1,h=>by rw[zT p i jB];show((fk p i).entry++[_]).length=_;rw[List.length_append,Aw p i jB];rfl
theorem ED(p:af)(j:Nat):∀i,j<i->i<=p.aa.aw.length->∃k:Nat,nth (fk p i).entry j=(k:Int)/\bQ (fk p i).ins k (Ey p (mZ p) k (nth p.aa.aw j).body++[iI 22 (nth p.aa.aw j).ret])
 |0,h,_=>by omega
 |i+1,h,hi=>by
  rw[zT p i jB];have hl:=Aw p i jB;by_cases e:j<i
  ·obtain⟨k,h1,post,h2⟩:=ED p j i e jB;refine⟨k,?_,post++(qJ p (mZ p) (nth p.aa.aw i).body (fk p i).ins.length++[iI 22 (nth p.aa.aw i).ret]),?_⟩
   ·show nth ((fk p i).entry++[_]) j=_;rw[pK jB];exact h1
   ·show((fk p i).ins++_++_).drop k=_;have hk:k<=(fk p i).ins.length:=Classical.byContradiction fun hk=>by
     rw[List.drop_eq_nil_of_le jB]at h2;have:=congrArg List.length h2;simp at this
    rw[List.append_assoc,List.drop_append_of_le_length hk,h2,List.append_assoc]
  ·have:j=i:=jB;subst this;refine⟨(fk p j).ins.length,?_,[],?_⟩
   ·show nth ((fk p j).entry++[((fk p j).ins.length:Int)]) j=_;have:=qL (fk p j).entry ((fk p j).ins.length:Int);rw[hl]at this;exact this
   ·show((fk p j).ins++qJ p (mZ p) (nth p.aa.aw j).body (fk p j).ins.length++[iI 22 (nth p.aa.aw j).ret]).drop (fk p j).ins.length=_;rw[List.append_assoc,List.drop_left,List.append_nil];rfl
theorem DB{p:af}(hs:gi p):∀i,i<=p.aa.aw.length->(fk p i).ins.length<=2000*i
 |0,_=>Nat.le_refl _
 |i+1,h=>by
  have ih:=DB hs i jB;rw[zT p i jB];have Wi:=pB hs.ok.aa (k:=i) jB;have hc:=(hs.aw i jB).chain;have hm:=hs.ok.aa.many;have Yu:=hs.ok.aa.body _ (fa (l:=p.aa.aw) (k:=i) jB);have Y4:=hs.ok.aa.shape (nth p.aa.aw i).body.toNat (by have:=Wi.1;have:=Wi.2;omega);have hb:=xT (p:=p) (f:=gm p (mZ p)) (au p (nth p.aa.aw i).body).l (fk p i).ins.length (kS p.aa i) (nth p.aa.aw i).body.toNat hc fun x hx k lo Yh=>by have hb:=Y4.2.1 x hx;have:=Wi.1;have:=Wi.2;exact DS hs.ok.aa _ x k lo hb.1 jB (Y4.1.block Yu x hx) Yh
  show((fk p i).ins++qJ p (mZ p) (nth p.aa.aw i).body (fk p i).ins.length++[iI 22 (nth p.aa.aw i).ret]).length<=_;rw[List.length_append,List.length_append,List.length_singleton];have:=Wi.1;have:=Wi.2;unfold qJ;have:(nth p.aa.aw i).body.toNat<=300:=jB;omega
def rl(hs:gi p):uH p (bA p):=by
 have e:bA p=fk p p.aa.aw.length:=by unfold bA fk;rw[List.take_length]
 have hf:=hs.ok.aa.aw;rw[e];exact⟨Aw p _ jl,fun j hj=>ED p j _ hj jl,by have:=DB hs _ (Nat.le_refl p.aa.aw.length);omega⟩
def l4(p:af)(C:aI):MV:=⟨[MV.iF p C (ik p) []],0,[],0,[],0,0,0⟩
theorem Kv:∀(l:List bM) (i:Int) (x:bM),kR (l++[x]) i=kR l i++[⟨x.name,x.ty,i+l.length⟩]
 |[],i,x=>by simp[kR]
 |y::l,i,x=>by
  have:=Kv l (i+1) x;simp only[List.cons_append,kR,this,List.length_cons];congr 3
  simp only[bI.mk.injEq,true_and];omega
theorem xz:∀(l:List bM) (i:Int),(kR l i).length=l.length
 |[],i=>rfl
 |y::l,i=>by simp only[kR,List.length_cons,xz l (i+1)]
def As(h:p8 p)(b:Int):(au p b).l.length<=300:=by
 have hm:=h.aa.many;by_cases hb:b.toNat<p.aa.nodes.length
 ·obtain⟨lo,hc⟩:=(h.aa.shape b.toNat hb).2.2;have:=C3 hc;show(nth p.aa.nodes b.toNat).l.length<=300;omega
 ·unfold au nth;rw[List.getD_eq_getElem?_getD,List.getElem?_eq_none jB];exact Nat.zero_le _
end Go.Proofs.YtijdhbokcdpklaaGreatDoor
/- Lemmas. No conditions. -/
import Derived.Test.YtghoellpinmenaaGreatDoorSo9
set_option linter.all false
namespace Go.Gd
open Go
def iI(op a:Int):aq:=⟨op,a,0,sE⟩
def bn(f:Int->Int->List aq)(from_:Int):PJ->List aq->List aq
 |[],out=>out
 |x::l,out=>bn f from_ l (out++f x (from_+out.length))
def kF(s:PL):Int:=if s=(⟨#[38,38]⟩:PL)then 18 else if s=(⟨#[124,124]⟩:PL)then 19 else 7
def aZ(p:ab):Nat->Int->Int->List aq
 |0,_,_=>[]
 |n+1,a,from_=>
  let nd:=ao p a
  let x:=aZ p n (nth nd.l 0) from_
  if nd.kind=1 then[iI 2 nd.n]
  else if nd.kind=2 then[iI 3 nd.n]
  else if nd.kind=3 then[⟨4,0,0,nd.name⟩]
  else if nd.kind=4 then[⟨5,nth p.slots a.toNat,nth p.types a.toNat,sE⟩]
  else if nd.kind=5 then x++[iI 11 (nth p.slots a.toNat)]
  else if nd.kind=6 then x++[iI 10 0]
  else if nd.kind=7 then x++[iI 8 0]
  else if nd.kind=8 then x++[iI 9 0]
  else if kF nd.name=7 then x++aZ p n (nth nd.l 1) (from_+x.length)++[⟨7,0,0,nd.name⟩]
  else
   let y:=aZ p n (nth nd.l 1) (from_+x.length+1)
   x++[iI (kF nd.name) (from_+x.length+1+y.length)]++y
def lR(p:ab):Nat:=p.aa.nodes.length
def zn(p:ab)(a:Int):Int:=iS aU.name (ao p a).name p.aa.au 0 (-1)
def cd(p:ab)(n:Nat)(a from_:Int):List aq:=bn (aZ p n) from_ (ao p a).l []++[⟨20,zn p a,(ao p a).l.length,sE⟩]
def iU(p:ab)(n:Nat)(a from_:Int):List aq:=
 if(ao p a).kind=19 then[iI 14 0]
 else if(ao p a).kind=20 then aZ p n (nth (ao p a).l 0) from_++[iI 13 0]
 else if(ao p a).kind=21 then cd p n a from_
 else aZ p n a from_
def qK(p:ab)(n:Nat)(bl:Int->Int->List aq)(a from_:Int):List aq:=
 let nd:=ao p a
 let x:=aZ p n (nth nd.l 0) from_
 let b:=bl (nth nd.l 1) (from_+x.length+1)
 if nd.kind=16 then x++[iI 17 (from_+x.length+1+(b.length+1))]++(b++[iI 16 (from_-1)])
 else if nd.l.length=3 then
  let c:=bl (nth nd.l 2) (from_+x.length+1+b.length+1)
  x++[iI 17 (from_+x.length+1+(b.length+1))]++(b++[iI 16 (from_+x.length+1+b.length+1+c.length)])++c
 else x++[iI 17 (from_+x.length+1+b.length)]++b
def fR(p:ab):Nat->Int->Int->List aq
 |0,_,_=>[]
 |n+1,a,from_=>
  let nd:=ao p a
  let at_:=from_+1
  let x:=aZ p n (nth nd.l 0) at_
  iI 1 a::(
   if nd.kind=10\/nd.kind=11 then iU p n (nth nd.l 0) at_++[iI 6 (nth p.slots a.toNat)]
   else if nd.kind=12 then x++aZ p n (nth nd.l 1) (at_+x.length)++[iI 12 (nth p.slots a.toNat)]
   else if nd.kind=13 then cd p n (nth nd.l 0) at_++[iI 23 0]
   else if nd.kind=14 then x++[iI 15 0]
   else if nd.kind=17 then(if nd.l.length=0 then[iI 22 0]else x++[iI 21 0])
   else qK p n (fun b f=>bn (fR p n) f (ao p b).l []) a at_)
def pN(p:ab)(n:Nat)(b from_:Int):List aq:=bn (fR p n) from_ (ao p b).l []
def Bf(p:ab)(c:aB)(f:aU):aB:=⟨c.ins++pN p (lR p) f.body c.ins.length++[iI 22 f.ret],c.entry++[(c.ins.length:Int)]⟩
def cC(p:ab):aB:=p.aa.au.foldl (Bf p) ⟨[],[]⟩
structure MC where
 fn:Int
 at_:Int
 mark:Int
 slots:List aj
 stack:List aj
 aP:Nat
 deriving Inhabited
structure MV where
 calls:List MC
 aP:Nat
 heap:List (List Int)
 in_:Int
 aD:List ByteArray
 status:Int
 bs:Int
 time:Int
namespace MC
def push(c:MC)(v:aj):MC:={ c with stack:=c.stack++[v],aP:=c.aP-1 }
def last(c:MC):aj:=nth c.stack (c.stack.length-1)
def cut(c:MC)(n:Nat):MC:={ c with stack:=c.stack.take (c.stack.length-n),aP:=c.aP+n }
def jump(c:MC)(a:Int):MC:={ c with at_:=a }
def back(c:MC):MC:={ c with at_:=c.mark,stack:=[],aP:=0 }
end MC
namespace MV
def af(m:MV):MC:=nth m.calls (m.calls.length-1)
def aM(m:MV)(c:MC):MV:={ m with calls:=m.calls.set (m.calls.length-1) c }
def push(m:MV)(v:aj):MV:=m.aM (m.af.push v)
def cut(m:MV)(n:Nat):MV:=m.aM (m.af.cut n)
def stops(m:MV)(status bs:Int):MV:={ m.aM m.af.back with status:=status,bs:=bs }
def dI(m:MV)(r:aj×Int):MV:=if r.2≠0 then m.stops 3 r.2 else m.push r.1
def pop(m:MV):MV:={ m with calls:=m.calls.take (m.calls.length-1),aP:=m.aP+1 }
def ends(m:MV)(v:aj):MV:=if m.calls.length<=1 then{ m.pop with status:=2 }else m.pop.push v
def DR(C:aB)(fn:Int):Int:=nth C.entry fn.toNat
def iD(p:ab)(C:aB)(fn:Int)(args:List aj):MC:=⟨fn,DR C fn,DR C fn,args++List.replicate ((nth p.size fn.toNat)-args.length).toNat v0,[],0⟩
def ci(m:MV)(p:ab)(C:aB)(fn:Int)(args:List aj):MV:={ m with calls:=m.calls++[iD p C fn args],aP:=m.aP-1 }
def aV(h:PI)(n:Int):PJ:=if n<1\/(h.length:Int)<n then[]else nth h (n-1).toNat
def ins(m:MV)(p:ab)(C:aB)(inp:PJ)(x:aq):MV:=
 let c:=m.af
 let l:=c.last
 let k:=(c.cut 1).last
 if x.op=2 then m.push (vI x.a)
 else if x.op=3 then m.push (vB (decide (x.a=1)))
 else if x.op=4 then m.push (vT x.s)
 else if x.op=5 then m.push (dt c.slots x.a x.b)
 else if x.op=6 then m.aM { c.cut 1 with slots:=c.slots.set x.a.toNat l }
 else if x.op=7 then(m.cut 2).dI (mz x.s k l)
 else if x.op=8 then(m.cut 1).push (jV (⟨#[45]⟩:PL) l)
 else if x.op=9 then(m.cut 1).push (jV (⟨#[33]⟩:PL) l)
 else if x.op=10 then(m.cut 1).push (vI (if l.ty=4 then((aV m.heap l.n).length:Int)else(l.s.size:Int)))
 else if x.op=11 then
  let L:=aV m.heap (dt c.slots x.a 4).n
  if l.n<0\/(L.length:Int)<=l.n then(m.cut 1).stops 3 2 else(m.cut 1).push (vI (nth L l.n.toNat))
 else if x.op=12 then
  let a:=(dt c.slots x.a 4).n
  if k.n<0\/((aV m.heap a).length:Int)<=k.n then(m.cut 2).stops 3 2
  else{ m.cut 2 with heap:=m.heap.set (a-1).toNat ((nth m.heap (a-1).toNat).set k.n.toNat l.n) }
 else if x.op=13 then
  if l.n<0\/16<l.n then(m.cut 1).stops 3 7
  else if 40<fv m.heap+l.n+1 then(m.cut 1).stops 3 4
  else{ (m.cut 1).push ⟨4,m.heap.length+1,sE⟩with heap:=m.heap++[List.replicate l.n.toNat 0] }
 else if x.op=14 then
  if(inp.length:Int)<=m.in_ then m.stops 1 0 else{ m.push (vI (nth inp m.in_.toNat))with in_:=m.in_+1 }
 else if x.op=15 then
  if 24<=m.aD.length then m.stops 3 5 else{ m.cut 1 with aD:=m.aD++[kW l] }
 else if x.op=16 then m.aM (c.jump x.a)
 else if x.op=17 then(if l.n=0 then m.aM ((c.cut 1).jump x.a)else m.cut 1)
 else if x.op=18\/x.op=19 then(if(l.n=1<->x.op=19)then m.aM (c.jump x.a)else m.cut 1)
 else if x.op=20 then
  let m1:=m.cut x.b.toNat
  if 8<=m.calls.length then m1.stops 3 3 else m1.ci p C x.a (c.stack.drop (c.stack.length-x.b.toNat))
 else if x.op=21 then(m.cut 1).ends l
 else if x.op=22 then m.ends (vZ x.a)
 else if x.op=23 then m.cut 1
 else m
def bc(m:MV)(C:aB):aq:=nth C.ins m.af.at_.toNat
def one(m:MV)(p:ab)(C:aB)(inp:PJ):MV:=(m.aM (m.af.jump (m.af.at_+1))).ins p C inp (m.bc C)
structure fE(m:MV)(p:ab)(C:aB):Prop where
 calls:1<=m.calls.length
 mw:m.calls.length<=8
 a0:0<=m.af.at_
 a1:m.af.at_<C.ins.length
 one:(m.bc C).op=6\/(m.bc C).op=8\/(m.bc C).op=9\/(m.bc C).op=10\/(m.bc C).op=11\/(m.bc C).op=13\/(m.bc C).op=15\/(m.bc C).op=17\/(m.bc C).op=18\/(m.bc C).op=19\/(m.bc C).op=21\/(m.bc C).op=23->1<=m.af.stack.length
 two:(m.bc C).op=7\/(m.bc C).op=12->2<=m.af.stack.length
 slot:(m.bc C).op=5\/(m.bc C).op=6\/(m.bc C).op=11\/(m.bc C).op=12->0<=(m.bc C).a/\(m.bc C).a<m.af.slots.length
 call:(m.bc C).op=20->0<=(m.bc C).b/\(m.bc C).b<=m.af.stack.length/\(m.bc C).b<=3/\0<=(m.bc C).a/\(m.bc C).a<C.entry.length/\(m.bc C).a<p.size.length/\0<=nth p.size (m.bc C).a.toNat/\nth p.size (m.bc C).a.toNat<=24/\(m.bc C).b<=nth p.size (m.bc C).a.toNat
 op:1<=(m.bc C).op/\(m.bc C).op<=23
 word:(m.bc C).op=15->cr m.af.last.n
 jh:∀v∈m.af.stack,v.s.size<=40
 deep:m.af.stack.length<=1000
end MV
def bB(C:List aq)(k:Nat)(c:List aq):Prop:=∃post,C.drop k=c++post
variable{C:List aq}{k:Nat}
def bB.app{a b:List aq}(h:bB C k (a++b)):bB C k a/\bB C (k+a.length) b:=by obtain⟨post,e⟩:=h;refine⟨⟨b++post,by rw[e,List.append_assoc]⟩,⟨post,?_⟩⟩;rw[<-List.drop_drop,e,List.append_assoc,List.drop_left]
def bB.head{x:aq}{c:List aq}(h:bB C k (x::c)):k<C.length/\nth C k=x/\bB C (k+1) c:=by
 obtain⟨post,e⟩:=h;have hk:k<C.length:=Classical.byContradiction fun h=>by rw[List.drop_eq_nil_of_le jB]at e;cases e
 refine⟨hk,?_,⟨post,?_⟩⟩
 ·rw[List.drop_eq_getElem_cons hk]at e;rw[dT hk];exact(List.cons.inj e).1
 ·rw[List.drop_eq_getElem_cons hk]at e;exact(List.cons.inj e).2
def bB.last{x:aq}{c:List aq}(h:bB C k (c++[x])):bB C k c/\k+c.length<C.length/\nth C (k+c.length)=x:=
 ⟨h.app.1,h.app.2.head.1,h.app.2.head.2.1⟩
theorem uM(f:Int->Int->List aq):∀(L:PJ) (k:Int) (out:List aq),bn f k L out=out++bn f (k+out.length) L []
 |[],k,out=>by simp[bn]
 |x::L,k,out=>by show bn f k L (out++f x (k+out.length))=out++bn f (k+out.length) L ([]++f x (k+out.length+(0:Nat)));rw[uM f L k,uM f L (k+out.length) _];simp only[List.nil_append,List.length_append,List.append_assoc,Int.natCast_add,Int.natCast_zero,Int.add_zero,Int.add_assoc]
theorem BA(f:Int->Int->List aq):∀(A B:PJ) (k:Int) (out:List aq),bn f k (A++B) out=bn f k B (bn f k A out)
 |[],B,k,out=>rfl
 |x::A,B,k,out=>BA f A B k _
theorem DA{f g:Int->Int->List aq}:∀(L:PJ) (k:Int) (out:List aq),(∀x∈L,∀j,f x j=g x j)->bn f k L out=bn g k L out
 |[],_,_,_=>rfl
 |x::L,k,out,h=>by show bn f k L (out++f x _)=bn g k L (out++g x _);rw[h x jE,DA L k _ fun y hy=>h y (by simp[hy])]
namespace MV
variable{M:MV}
def bh(h:1<=M.calls.length)(c:MC):(M.aM c).af=c:=by show nth (M.calls.set _ c) ((M.calls.set _ c).length-1)=c;rw[List.length_set];exact(Go.Gd.bI _ _ _ _ jB).trans (if_pos rfl)
def dc(M:MV)(c d:MC):(M.aM c).aM d=M.aM d:=by show({ M with calls:=(M.calls.set _ c).set ((M.calls.set _ c).length-1) d }:MV)=_;rw[List.length_set,List.set_set];rfl
def br(M:MV)(c:MC):(M.aM c).calls.length=M.calls.length:=by show(M.calls.set _ c).length=_;simp
def qC(M:MV)(h:1<=M.calls.length):M.aM M.af=M:=by show({ M with calls:=M.calls.set (M.calls.length-1) (nth M.calls (M.calls.length-1)) }:MV)=M;rw[dT jB,List.set_getElem_self]
def jt(M:MV)(c:MC):(M.aM c).heap=M.heap:=rfl
def iv(M:MV)(c:MC)(s t:Int):MV:={ M.aM c.back with status:=s,bs:=t }
def dK(h:1<=M.calls.length)(c:MC)(s t:Int):(M.aM c).stops s t=M.iv c s t:=by unfold stops iv;rw[bh h,dc]
def eQ(h:1<=M.calls.length)(c:MC)(v:aj):(M.aM c).push v=M.aM (c.push v):=by unfold push;rw[bh h,dc]
def cL(h:1<=M.calls.length)(c:MC)(n:Nat):(M.aM c).cut n=M.aM (c.cut n):=by unfold cut;rw[bh h,dc]
end MV
section
variable (m:MV)(p:ab)(C:aB)(inp:PJ)(a b:Int)(s:PL)
def MV.qi:m.ins p C inp (iI 2 a)=m.push (vI a):=rfl
def MV.oI:m.ins p C inp (iI 3 a)=m.push (vB (decide (a=1))):=rfl
def MV.oW:m.ins p C inp ⟨4,a,b,s⟩=m.push (vT s):=rfl
def MV.o0:m.ins p C inp ⟨5,a,b,s⟩=m.push (dt m.af.slots a b):=rfl
def MV.nM:m.ins p C inp (iI 6 a)=m.aM { m.af.cut 1 with slots:=m.af.slots.set a.toNat m.af.last }:=rfl
def MV.pX:m.ins p C inp ⟨7,a,b,s⟩=(m.cut 2).dI (mz s (m.af.cut 1).last m.af.last):=rfl
def MV.qc:m.ins p C inp (iI 8 a)=(m.cut 1).push (jV (⟨#[45]⟩:PL) m.af.last):=rfl
def MV.qL:m.ins p C inp (iI 9 a)=(m.cut 1).push (jV (⟨#[33]⟩:PL) m.af.last):=rfl
def MV.qy:m.ins p C inp (iI 10 a)=(m.cut 1).push (vI (if m.af.last.ty=4 then((aV m.heap m.af.last.n).length:Int)else(m.af.last.s.size:Int))):=rfl
def MV.nU:m.ins p C inp (iI 11 a)=if m.af.last.n<0\/((aV m.heap (dt m.af.slots a 4).n).length:Int)<=m.af.last.n then(m.cut 1).stops 3 2 else(m.cut 1).push (vI (nth (aV m.heap (dt m.af.slots a 4).n) m.af.last.n.toNat)):=rfl
def MV.qA:m.ins p C inp (iI 12 a)=if(m.af.cut 1).last.n<0\/((aV m.heap (dt m.af.slots a 4).n).length:Int)<=(m.af.cut 1).last.n then(m.cut 2).stops 3 2
  else{ m.cut 2 with heap:=m.heap.set ((dt m.af.slots a 4).n-1).toNat ((nth m.heap ((dt m.af.slots a 4).n-1).toNat).set (m.af.cut 1).last.n.toNat m.af.last.n) }:=rfl
def MV.qO:m.ins p C inp (iI 13 a)=if m.af.last.n<0\/16<m.af.last.n then(m.cut 1).stops 3 7
  else if 40<fv m.heap+m.af.last.n+1 then(m.cut 1).stops 3 4
  else{ (m.cut 1).push ⟨4,m.heap.length+1,sE⟩with heap:=m.heap++[List.replicate m.af.last.n.toNat 0] }:=rfl
def MV.nG:m.ins p C inp (iI 14 a)=if(inp.length:Int)<=m.in_ then m.stops 1 0 else{ m.push (vI (nth inp m.in_.toNat))with in_:=m.in_+1 }:=rfl
def MV.nS:m.ins p C inp (iI 15 a)=if 24<=m.aD.length then m.stops 3 5 else{ m.cut 1 with aD:=m.aD++[kW m.af.last] }:=rfl
def MV.oD:m.ins p C inp (iI 16 a)=m.aM (m.af.jump a):=rfl
def MV.np:m.ins p C inp (iI 17 a)=if m.af.last.n=0 then m.aM ((m.af.cut 1).jump a)else m.cut 1:=rfl
def MV.qQ:m.ins p C inp (iI 18 a)=if m.af.last.n=1 then m.cut 1 else m.aM (m.af.jump a):=by
 show(if(m.af.last.n=1<->(18:Int)=19)then m.aM (m.af.jump a)else m.cut 1)=_;by_cases h:m.af.last.n=1
 ·rw[if_pos h,if_neg (fun e=>absurd (e.1 h) jC)]
 ·rw[if_neg h,if_pos ⟨fun e=>(h e).elim,fun e=>absurd e jC⟩]
def MV.tA:m.ins p C inp (iI 19 a)=if m.af.last.n=1 then m.aM (m.af.jump a)else m.cut 1:=by
 show(if(m.af.last.n=1<->(19:Int)=19)then m.aM (m.af.jump a)else m.cut 1)=_;by_cases h:m.af.last.n=1
 ·rw[if_pos h,if_pos ⟨fun _=>rfl,fun _=>h⟩]
 ·rw[if_neg h,if_neg (fun e=>h (e.2 rfl))]
def MV.o9:m.ins p C inp ⟨20,a,b,s⟩=if 8<=m.calls.length then(m.cut b.toNat).stops 3 3 else(m.cut b.toNat).ci p C a (m.af.stack.drop (m.af.stack.length-b.toNat)):=rfl
def MV.qd:m.ins p C inp (iI 21 a)=(m.cut 1).ends m.af.last:=rfl
def MV.pY:m.ins p C inp (iI 23 a)=m.cut 1:=rfl
end
inductive fj(p:ab)(C:aB)(inp:List Int):Nat->MV->MV->Prop
 |refl (m:MV):fj p C inp 0 m m
 |step {n:Nat} {m m':MV} (h0:m.status=0) (h1:(m.bc C).op≠1) (hok:m.fE p C) (h:fj p C inp n (m.one p C inp) m'):fj p C inp (n+1) m m'
def bj(p:ab)(C:aB)(inp:PJ)(m m':MV):Prop:=∃n,fj p C inp n m m'
theorem bj.refl{p:ab}{C:aB}{inp:PJ}(m:MV):bj p C inp m m:=⟨0,.refl m⟩
def fj.trans{p:ab}{C:aB}{inp:PJ}{n:Nat}{a b:MV}(h:fj p C inp n a b):∀{k c},fj p C inp k b c->fj p C inp (n+k) a c:=by
 induction h with
 |refl m=>intro k c hk;rw[Nat.zero_add];exact hk
 |step h0 h1 hok _ ih=>intro k c hk;rw[Nat.add_right_comm];exact .step h0 h1 hok (ih hk)
theorem bj.trans{p:ab}{C:aB}{inp:PJ}{a b c:MV}(h:bj p C inp a b)(k:bj p C inp b c):bj p C inp a c:=by obtain⟨n,h⟩:=h;obtain⟨m,k⟩:=k;exact⟨n+m,h.trans k⟩
theorem bj.ins{p:ab}{C:aB}{inp:PJ}{M m':MV}{c:MC}{k:Nat}{x:aq}(h1:1<=M.calls.length)(h8:M.calls.length<=8)(hs:M.status=0)(hk:c.at_=k)(PW:k<C.ins.length)(hx:nth C.ins k=x)(RB:x.op≠1)
  (hok:(M.aM c).fE p C) (hg:bj p C inp ((M.aM { c with at_:=(k:Int)+1 }).ins p C inp x) m'):bj p C inp (M.aM c) m':=by
 obtain⟨n,hg⟩:=hg;have hi:(M.aM c).bc C=x:=by unfold MV.bc;rw[MV.bh h1,hk,Int.toNat_natCast,hx]
 refine⟨n+1,.step hs (by rw[hi];exact RB) hok ?_⟩;unfold MV.one;rw[hi,MV.bh h1,MV.dc];unfold MC.jump;rw[hk];exact hg
def fE.OR{p:ab}{C:aB}{M:MV}{c:MC}{x:aq}(h1:1<=M.calls.length)(h8:M.calls.length<=8)(hk:c.at_=k)(PW:k<C.ins.length)(hx:nth C.ins k=x)
  (one:x.op=6\/x.op=8\/x.op=9\/x.op=10\/x.op=11\/x.op=13\/x.op=15\/x.op=17\/x.op=18\/x.op=19\/x.op=21\/x.op=23->1<=c.stack.length)
  (two:x.op=7\/x.op=12->2<=c.stack.length)
  (slot:x.op=5\/x.op=6\/x.op=11\/x.op=12->0<=x.a/\x.a<c.slots.length)
  (call:x.op=20->0<=x.b/\x.b<=c.stack.length/\x.b<=3/\0<=x.a/\x.a<C.entry.length/\x.a<p.size.length/\0<=nth p.size x.a.toNat/\nth p.size x.a.toNat<=24/\x.b<=nth p.size x.a.toNat)
  (op:1<=x.op/\x.op<=23) (word:x.op=15->cr c.last.n) (jh:∀v∈c.stack,v.s.size<=40) (deep:c.stack.length<=1000):(M.aM c).fE p C:=by
 have hi:(M.aM c).bc C=x:=by unfold MV.bc;rw[MV.bh h1,hk,Int.toNat_natCast,hx]
 have ht:=MV.bh h1 c;refine⟨by rw[MV.br];exact h1,by rw[MV.br];exact h8,by rw[ht,hk];omega,by rw[ht,hk];omega,?_,?_,?_,?_,?_,?_,?_,?_⟩
 ·rw[hi,ht];exact one
 ·rw[hi,ht];exact two
 ·rw[hi,ht];exact slot
 ·rw[hi,ht];exact call
 ·rw[hi];exact op
 ·rw[hi,ht];exact word
 ·rw[ht];exact jh
 ·rw[ht];exact deep
def Fl(p:ab)(n:Nat)(k:Nat)(b:Int):List aq:=bn (fR p n) k (ph p b) []
structure sP(p:ab)(C:aB):Prop where
 len:C.entry.length=p.aa.au.length
 at_:∀j,j<p.aa.au.length->∃k:Nat,nth C.entry j=(k:Int)/\bB C.ins k (Fl p (lR p) k (nth p.aa.au j).body++[iI 22 (nth p.aa.au j).ret])
 pu:C.ins.length<=1000000
def MV.dJ(m:MV):MV:={ m.aM { m.af with mark:=m.af.at_,at_:=m.af.at_+1 }with status:=0 }
def MV.eo(m:MV)(C:aB):Prop:=m.status≠0\/(m.bc C).op=1
def MV.eT(m:MV):MV:={ m with time:=if m.status=1 then m.time else m.time+1 }
end Go.Gd
namespace Go.Gd.MV
open Go
def eK(c:MC)(v:aj)(st:List aj)(a:Int)(q:Nat):MC.last { c with at_:=a,stack:=st++[v],aP:=q }=v:=by show nth (st++[v]) ((st++[v]).length-1)=v;rw[List.length_append,List.length_singleton,Nat.add_sub_cancel];exact o5 _ _
def fB(c:MC)(v:aj)(st:List aj)(a:Int)(q:Nat):MC.cut { c with at_:=a,stack:=st++[v],aP:=q } 1={ c with at_:=a,stack:=st,aP:=q+1 }:=by show MC.mk c.fn a c.mark c.slots ((st++[v]).take ((st++[v]).length-1)) (q+1)=_;rw[List.length_append,List.length_singleton,Nat.add_sub_cancel,List.take_left]
def nC(c:MC)(u v:aj)(st:List aj)(a:Int)(q:Nat):MC.cut { c with at_:=a,stack:=st++[u]++[v],aP:=q } 2={ c with at_:=a,stack:=st,aP:=q+2 }:=by show MC.mk c.fn a c.mark c.slots ((st++[u]++[v]).take ((st++[u]++[v]).length-2)) (q+2)=_;rw[List.append_assoc,List.length_append,show([u]++[v]).length=2 from rfl,Nat.add_sub_cancel,List.take_left]
end Go.Gd.MV
namespace Go.Proofs.YtghoellpinmenaaGreatDoor
open Go Go.Gd
def iH(p:ab)(j:Nat)(a:Int):Prop:=nV p.aa j<=a.toNat/\a.toNat<=(nth p.aa.au j).body.toNat
variable{p:ab}{a:Int}
def iH.aA(h:fG p){j:Nat}(hj:j<p.aa.au.length){b:Int}(hi:iH p j a)(hb:b∈(ao p a).l):iH p j b/\0<=b/\b.toNat<a.toNat/\b.toNat<p.aa.nodes.length:=by
 have RC:=pC h.ok.aa hj;have ha:a.toNat<p.aa.nodes.length:=by have:=hi.2;have:=RC.1;have:=RC.2;omega
 have h1:=(h.ok.aa.shape a.toNat ha).2.1 b hb;have hc:=(h.au j hj).chain;have h2:=hi.2;have h3:=hi.1;refine⟨⟨?_,jB⟩,h1.1,h1.2,jB⟩;by_cases e:a.toNat<(nth p.aa.au j).body.toNat
 ·exact hc.closed _ h3 e b hb
 ·have e:a.toNat=(nth p.aa.au j).body.toNat:=jB;have QX:b∈(nth p.aa.nodes a.toNat).l:=hb;rw[e]at QX;exact(hc.mem b QX).2.1
def Hu{α:Type}{P:α->Prop}{l:List α}{x:α}(h:∀v∈l,P v)(hx:P x):∀v∈l++[x],P v:=fun v hv=>by
 rcases List.mem_append.1 hv with hv|hv
 ·exact h v hv
 ·rw[List.mem_singleton.1 hv];exact hx
def lf(p:ab)(n:Nat)(a k:Int):aZ p (n+1) a k=(
  if(ao p a).kind=1 then[iI 2 (ao p a).n]
  else if(ao p a).kind=2 then[iI 3 (ao p a).n]
  else if(ao p a).kind=3 then[⟨4,0,0,(ao p a).name⟩]
  else if(ao p a).kind=4 then[⟨5,nth p.slots a.toNat,nth p.types a.toNat,sE⟩]
  else if(ao p a).kind=5 then aZ p n (nth (ao p a).l 0) k++[iI 11 (nth p.slots a.toNat)]
  else if(ao p a).kind=6 then aZ p n (nth (ao p a).l 0) k++[iI 10 0]
  else if(ao p a).kind=7 then aZ p n (nth (ao p a).l 0) k++[iI 8 0]
  else if(ao p a).kind=8 then aZ p n (nth (ao p a).l 0) k++[iI 9 0]
  else if kF (ao p a).name=7 then aZ p n (nth (ao p a).l 0) k++aZ p n (nth (ao p a).l 1) (k+(aZ p n (nth (ao p a).l 0) k).length)++[⟨7,0,0,(ao p a).name⟩]
  else aZ p n (nth (ao p a).l 0) k++[iI (kF (ao p a).name) (k+(aZ p n (nth (ao p a).l 0) k).length+1+(aZ p n (nth (ao p a).l 1) (k+(aZ p n (nth (ao p a).l 0) k).length+1)).length)]++aZ p n (nth (ao p a).l 1) (k+(aZ p n (nth (ao p a).l 0) k).length+1)):=rfl
variable{n:Nat}{bl:Int->Int->List aq}{k:Int}
def BX(hk:(ao p a).kind=16):qK p n bl a k=aZ p n (nth (ao p a).l 0) k++[iI 17 (k+(aZ p n (nth (ao p a).l 0) k).length+1+((bl (nth (ao p a).l 1) (k+(aZ p n (nth (ao p a).l 0) k).length+1)).length+1))]++(bl (nth (ao p a).l 1) (k+(aZ p n (nth (ao p a).l 0) k).length+1)++[iI 16 (k-1)]):=by unfold qK;simp only;rw[if_pos hk]
def GK(hk:(ao p a).kind=15)(hl:(ao p a).l.length=3):qK p n bl a k=aZ p n (nth (ao p a).l 0) k++[iI 17 (k+(aZ p n (nth (ao p a).l 0) k).length+1+((bl (nth (ao p a).l 1) (k+(aZ p n (nth (ao p a).l 0) k).length+1)).length+1))]++(bl (nth (ao p a).l 1) (k+(aZ p n (nth (ao p a).l 0) k).length+1)++[iI 16 (k+(aZ p n (nth (ao p a).l 0) k).length+1+(bl (nth (ao p a).l 1) (k+(aZ p n (nth (ao p a).l 0) k).length+1)).length+1+(bl (nth (ao p a).l 2) (k+(aZ p n (nth (ao p a).l 0) k).length+1+(bl (nth (ao p a).l 1) (k+(aZ p n (nth (ao p a).l 0) k).length+1)).length+1)).length)])++bl (nth (ao p a).l 2) (k+(aZ p n (nth (ao p a).l 0) k).length+1+(bl (nth (ao p a).l 1) (k+(aZ p n (nth (ao p a).l 0) k).length+1)).length+1):=by unfold qK;simp only;rw[jN,if_pos hl]
def EN(hk:(ao p a).kind=15)(hl:(ao p a).l.length≠3):qK p n bl a k=aZ p n (nth (ao p a).l 0) k++[iI 17 (k+(aZ p n (nth (ao p a).l 0) k).length+1+(bl (nth (ao p a).l 1) (k+(aZ p n (nth (ao p a).l 0) k).length+1)).length)]++bl (nth (ao p a).l 1) (k+(aZ p n (nth (ao p a).l 0) k).length+1):=by unfold qK;simp only;rw[jN,if_neg hl]
def MV.p8{m:MV}(h:2<=m.calls.length):m.pop.af=nth m.calls (m.calls.length-1-1):=by show nth (m.calls.take (m.calls.length-1)) ((m.calls.take (m.calls.length-1)).length-1)=_;rw[List.length_take,show min (m.calls.length-1) m.calls.length=m.calls.length-1 from jB,fF _ _ _ jB]
def xX(p:ab)(n:Nat)(a k:Int):fR p (n+1) a k=iI 1 a::(
  if(ao p a).kind=10\/(ao p a).kind=11 then iU p n (nth (ao p a).l 0) (k+1)++[iI 6 (nth p.slots a.toNat)]
  else if(ao p a).kind=12 then aZ p n (nth (ao p a).l 0) (k+1)++aZ p n (nth (ao p a).l 1) (k+1+(aZ p n (nth (ao p a).l 0) (k+1)).length)++[iI 12 (nth p.slots a.toNat)]
  else if(ao p a).kind=13 then cd p n (nth (ao p a).l 0) (k+1)++[iI 23 0]
  else if(ao p a).kind=14 then aZ p n (nth (ao p a).l 0) (k+1)++[iI 15 0]
  else if(ao p a).kind=17 then(if(ao p a).l.length=0 then[iI 22 0]else aZ p n (nth (ao p a).l 0) (k+1)++[iI 21 0])
  else qK p n (fun b f=>bn (fR p n) f (ao p b).l []) a (k+1)):=rfl
def sR(p:ab)(n:Nat)(a k:Int):iU p n a k=(if(ao p a).kind=19 then[iI 14 0]else if(ao p a).kind=20 then aZ p n (nth (ao p a).l 0) k++[iI 13 0]else if(ao p a).kind=21 then cd p n a k else aZ p n a k):=rfl
theorem lB{p:ab}(ht:aO p.aa):∀(n:Nat) (a k:Int) (lo:Nat),0<=a->a.toNat<p.aa.nodes.length->bW (bE p.aa.nodes a)->aJ p.aa.nodes lo (ao p a).l a.toNat->(aZ p n a k).length+4*lo<=4*(a.toNat+1)
 |0,a,k,lo,h0,hl,hk,hc=>by have:=hc.le;show 0+_<=_;omega
 |n+1,a,k,lo,h0,hl,hk,hc=>by
  have Qa:=hc.le;have sh:=(ht.shape a.toNat hl).1;have P8:bW (ao p a).kind:=hk;unfold bW at P8;rw[lf];have one:∀x,(ao p a).l=[x]->bW (bE p.aa.nodes x)->(aZ p n (nth (ao p a).l 0) k).length+1+4*lo<=4*(a.toNat+1):=fun x B' hx=>by rw[B']at hc;obtain⟨c1,c2,c3,c4,c5⟩:=jL hc;have:=lB ht n x k lo c1 jB hx c5;rw[B'];show(aZ p n x k).length+1+_<=_;omega
  have Qs:(ao p a).kind=1\/(ao p a).kind=2\/(ao p a).kind=3\/(ao p a).kind=4\/(ao p a).kind=5\/(ao p a).kind=6\/(ao p a).kind=7\/(ao p a).kind=8\/(ao p a).kind=9:=jB;rcases Qs with e|e|e|e|e|e|e|e|e<;>simp only[e,Int.reduceEq,↓reduceIte,List.length_append,List.length_cons,List.length_nil]
  ·omega
  ·omega
  ·omega
  ·omega
  ·obtain⟨x,B',hx⟩:=sh.one (.inl e);have:=one x B' hx;omega
  ·obtain⟨x,B',hx⟩:=sh.one (by have e:(nth p.aa.nodes a.toNat).kind=6:=e;omega);have:=one x B' hx;omega
  ·obtain⟨x,B',hx⟩:=sh.one (by have e:(nth p.aa.nodes a.toNat).kind=7:=e;omega);have:=one x B' hx;omega
  ·obtain⟨x,B',hx⟩:=sh.one (by have e:(nth p.aa.nodes a.toNat).kind=8:=e;omega);have:=one x B' hx;omega
  ·obtain⟨x,y,B',hx,hy⟩:=sh.two (.inl e);have B':(ao p a).l=[x,y]:=B';rw[B']at hc;obtain⟨c1,c2,c3,c4,c5,c6⟩:=jW hc;obtain⟨d1,d2,d3,d4,d5⟩:=jL c6;have e1:=fun k=>lB ht n x k lo c1 jB hx c5
   have e2:=fun k=>lB ht n y k (x.toNat+1) d1 jB hy d5
   rw[B',show nth [x,y] 0=x from rfl,show nth [x,y] 1=y from rfl];split
   ·simp only[List.length_append,List.length_cons,List.length_nil];have:=e1 k;have:=e2 (k+(aZ p n x k).length);omega
   ·simp only[List.length_append,List.length_cons,List.length_nil];have:=e1 k;have:=e2 (k+(aZ p n x k).length+1);omega
theorem v8{p:ab}{f:Int->Int->List aq}:∀(L:PJ) (k:Int) (lo hi:Nat),aJ p.aa.nodes lo L hi->(∀x∈L,∀k lo,aJ p.aa.nodes lo (ao p x).l x.toNat->(f x k).length+4*lo<=4*(x.toNat+1))->(bn f k L []).length+4*lo<=4*hi
 |[],k,lo,hi,hc,h=>by cases hc;show 0+_<=_;omega
 |x::L,k,lo,hi,hc,h=>by
  show(bn f k L ([]++f x (k+((0:Nat):Int)))).length+_<=_;rw[uM,List.nil_append,List.length_append];obtain⟨c1,c2,c3,c4,c5,c6⟩:=jW hc;have h1:=h x jE (k+((0:Nat):Int)) lo c5;have h2:=v8 L (k+(f x (k+((0:Nat):Int))).length) _ hi c6 fun y hy=>h y (by simp[hy])
  omega
def An(ht:aO p.aa)(n:Nat)(k:Int)(lo:Nat)(hl:a.toNat<p.aa.nodes.length)(hk:(ao p a).kind=21)(hc:aJ p.aa.nodes lo (ao p a).l a.toNat):(cd p n a k).length+4*lo<=4*(a.toNat+1):=by
 have Tp:=ht.shape a.toNat hl;have:=v8 (f:=aZ p n) (ao p a).l k lo a.toNat hc fun x hx k lo SR=>by have hb:=Tp.2.1 x hx;exact lB ht n x k lo hb.1 jB (Tp.1.call hk x hx) SR
 unfold cd;rw[List.length_append,List.length_singleton];omega
def FR(ht:aO p.aa)(n:Nat)(k:Int)(lo:Nat)(h0:0<=a)(hl:a.toNat<p.aa.nodes.length)(hk:ff (bE p.aa.nodes a))(hc:aJ p.aa.nodes lo (ao p a).l a.toNat):(iU p n a k).length+4*lo<=4*(a.toNat+1):=by
 have Qa:=hc.le;rw[sR];split
 ·simp only[List.length_cons,List.length_nil];omega
 rename_i e19;split
 ·rename_i e;obtain⟨x,B',hx⟩:=(ht.shape a.toNat hl).1.one (by have e:(nth p.aa.nodes a.toNat).kind=20:=e;omega);have B':(ao p a).l=[x]:=B';rw[B']at hc;obtain⟨c1,c2,c3,c4,c5⟩:=jL hc;have:=lB ht n x k lo c1 jB hx c5;rw[B',List.length_append,List.length_singleton];show(aZ p n x k).length+1+_<=_;omega
 rename_i e20;split
 ·rename_i e;exact An ht n k lo hl e hc
 ·rename_i e21;refine lB ht n a k lo h0 hl ?_ hc;rcases hk with hk|hk|hk|hk
  ·exact hk
  ·exact(e19 hk).elim
  ·exact(e20 hk).elim
  ·exact(e21 hk).elim
theorem zO{p:ab}(ht:aO p.aa):∀(n:Nat) (a k:Int) (lo:Nat),0<=a->a.toNat<p.aa.nodes.length->eR (bE p.aa.nodes a)->aJ p.aa.nodes lo (ao p a).l a.toNat->(fR p n a k).length+4*lo<=4*(a.toNat+1)
 |0,a,k,lo,h0,hl,hk,hc=>by have:=hc.le;show 0+_<=_;omega
 |n+1,a,k,lo,h0,hl,hk,hc=>by
  have Qa:=hc.le;have sh:=(ht.shape a.toNat hl).1;have P8:eR (ao p a).kind:=hk;unfold eR at P8;rw[xX,List.length_cons];have blk:∀(b:Int) (lo:Nat) (k:Int),0<=b->b.toNat<p.aa.nodes.length->bE p.aa.nodes b=18->aJ p.aa.nodes lo (ao p b).l b.toNat->(bn (fR p n) k (ao p b).l []).length+4*lo<=4*b.toNat:=fun b lo k b0 b1 b2 b3=>
   v8 (ao p b).l k lo b.toNat b3 fun x hx k lo SR=>by have hb:=(ht.shape b.toNat b1).2.1 x hx;exact zO ht n x k lo hb.1 jB ((ht.shape b.toNat b1).1.block b2 x hx) SR
  split
  ·rename_i e;obtain⟨x,B',hx⟩:=sh.right e;have B':(ao p a).l=[x]:=B';rw[B']at hc;obtain⟨c1,c2,c3,c4,c5⟩:=jL hc;have:=FR ht n (k+1) lo c1 jB hx c5;rw[B',List.length_append,List.length_singleton];show(iU p n x (k+1)).length+1+1+_<=_;omega
  split
  ·rename_i e;obtain⟨x,y,B',hx,hy⟩:=sh.two (.inr e);have B':(ao p a).l=[x,y]:=B';rw[B']at hc;obtain⟨c1,c2,c3,c4,c5,c6⟩:=jW hc;obtain⟨d1,d2,d3,d4,d5⟩:=jL c6;have e1:=lB ht n x (k+1) lo c1 jB hx c5;have e2:=lB ht n y (k+1+(aZ p n x (k+1)).length) (x.toNat+1) d1 jB hy d5;rw[B',show nth [x,y] 0=x from rfl,show nth [x,y] 1=y from rfl];simp only[List.length_append,List.length_cons,List.length_nil];omega
  split
  ·rename_i e;obtain⟨x,B',hx⟩:=sh.pB e;have B':(ao p a).l=[x]:=B';rw[B']at hc;obtain⟨c1,c2,c3,c4,c5⟩:=jL hc;have:=An ht n (k+1) lo jB hx c5;rw[B',List.length_append,List.length_singleton];show(cd p n x (k+1)).length+1+1+_<=_;omega
  split
  ·rename_i e;obtain⟨x,B',hx⟩:=sh.one (by have e:(nth p.aa.nodes a.toNat).kind=14:=e;omega);have B':(ao p a).l=[x]:=B';rw[B']at hc;obtain⟨c1,c2,c3,c4,c5⟩:=jL hc;have:=lB ht n x (k+1) lo c1 jB hx c5;rw[B',List.length_append,List.length_singleton];show(aZ p n x (k+1)).length+1+1+_<=_;omega
  split
  ·rename_i e;rcases sh.ret e with B'|⟨x,B',hx⟩
   ·have B':(ao p a).l=[]:=B';rw[B',if_pos (show([]:PJ).length=0 from rfl)];simp only[List.length_cons,List.length_nil];omega
   ·have B':(ao p a).l=[x]:=B';rw[B']at hc;obtain⟨c1,c2,c3,c4,c5⟩:=jL hc;have:=lB ht n x (k+1) lo c1 jB hx c5;rw[B',if_neg jE,List.length_append,List.length_singleton];show(aZ p n x (k+1)).length+1+1+_<=_;omega
  ·rename_i n1 n2 n3 n4 n5;by_cases k16:(ao p a).kind=16
   ·rw[BX k16];obtain⟨x,b,B',hx,hb⟩:=sh.fm k16;have B':(ao p a).l=[x,b]:=B';rw[B']at hc;obtain⟨c1,c2,c3,c4,c5,c6⟩:=jW hc;obtain⟨d1,d2,d3,d4,d5⟩:=jL c6;rw[B',show nth [x,b] 0=x from rfl,show nth [x,b] 1=b from rfl];have e1:=lB ht n x (k+1) lo c1 jB hx c5;have e2:=blk b (x.toNat+1) (k+1+(aZ p n x (k+1)).length+1) d1 jB hb d5;simp only[List.length_append,List.length_cons,List.length_nil];omega
   have k15:(ao p a).kind=15:=jB;obtain⟨x,b,hx,hb,B'⟩:=sh.lN k15;rcases B' with B'|⟨d,B',hd⟩
   ·have B':(ao p a).l=[x,b]:=B';rw[EN k15 (by rw[B'];simp)];rw[B']at hc;obtain⟨c1,c2,c3,c4,c5,c6⟩:=jW hc;obtain⟨d1,d2,d3,d4,d5⟩:=jL c6;rw[B',show nth [x,b] 0=x from rfl,show nth [x,b] 1=b from rfl];have e1:=lB ht n x (k+1) lo c1 jB hx c5;have e2:=blk b (x.toNat+1) (k+1+(aZ p n x (k+1)).length+1) d1 jB hb d5;simp only[List.length_append,List.length_cons,List.length_nil];omega
   ·have B':(ao p a).l=[x,b,d]:=B';rw[GK k15 (by rw[B'];rfl)];rw[B']at hc;obtain⟨c1,c2,c3,c4,c5,c6⟩:=jW hc;obtain⟨d1,d2,d3,d4,d5,d6⟩:=jW c6;obtain⟨g1,g2,g3,g4,g5⟩:=jL d6;rw[B',show nth [x,b,d] 0=x from rfl,show nth [x,b,d] 1=b from rfl,show nth [x,b,d] 2=d from rfl];have e1:=lB ht n x (k+1) lo c1 jB hx c5;have e2:=blk b (x.toNat+1) (k+1+(aZ p n x (k+1)).length+1) d1 jB hb d5;have e3:=blk d (b.toNat+1) (k+1+(aZ p n x (k+1)).length+1+(bn (fR p n) (k+1+(aZ p n x (k+1)).length+1) (ao p b).l []).length+1) g1 jB hd g5;simp only[List.length_append,List.length_cons,List.length_nil];omega
def eN(p:ab)(i:Nat):aB:=(p.aa.au.take i).foldl (Bf p) ⟨[],[]⟩
def wM(p:ab)(i:Nat)(h:i<p.aa.au.length):eN p (i+1)=Bf p (eN p i) (nth p.aa.au i):=by unfold eN;rw[L8 _ _ h,List.foldl_append];rfl
theorem xr(p:ab):∀i,i<=p.aa.au.length->(eN p i).entry.length=i
 |0,_=>rfl
 |i+1,h=>by rw[wM p i jB];show((eN p i).entry++[_]).length=_;rw[List.length_append,xr p i jB];rfl
theorem F0(p:ab)(j:Nat):∀i,j<i->i<=p.aa.au.length->∃k:Nat,nth (eN p i).entry j=(k:Int)/\bB (eN p i).ins k (Fl p (lR p) k (nth p.aa.au j).body++[iI 22 (nth p.aa.au j).ret])
 |0,h,_=>by omega
 |i+1,h,hi=>by
  rw[wM p i jB];have hl:=xr p i jB;by_cases e:j<i
  ·obtain⟨k,h1,post,h2⟩:=F0 p j i e jB;refine⟨k,?_,post++(pN p (lR p) (nth p.aa.au i).body (eN p i).ins.length++[iI 22 (nth p.aa.au i).ret]),?_⟩
   ·show nth ((eN p i).entry++[_]) j=_;rw[oz jB];exact h1
   ·show((eN p i).ins++_++_).drop k=_;have hk:k<=(eN p i).ins.length:=Classical.byContradiction fun hk=>by
     rw[List.drop_eq_nil_of_le jB]at h2;have:=congrArg List.length h2;simp at this
    rw[List.append_assoc,List.drop_append_of_le_length hk,h2,List.append_assoc]
  ·have:j=i:=jB;subst this;refine⟨(eN p j).ins.length,?_,[],?_⟩
   ·show nth ((eN p j).entry++[((eN p j).ins.length:Int)]) j=_;have:=o5 (eN p j).entry ((eN p j).ins.length:Int);rw[hl]at this;exact this
   ·show((eN p j).ins++pN p (lR p) (nth p.aa.au j).body (eN p j).ins.length++[iI 22 (nth p.aa.au j).ret]).drop (eN p j).ins.length=_;rw[List.append_assoc,List.drop_left,List.append_nil];rfl
theorem yX{p:ab}(hs:fG p):∀i,i<=p.aa.au.length->(eN p i).ins.length<=2000*i
 |0,_=>Nat.le_refl _
 |i+1,h=>by
  have ih:=yX hs i jB;rw[wM p i jB];have RC:=pC hs.ok.aa (k:=i) jB;have hc:=(hs.au i jB).chain;have hm:=hs.ok.aa.many;have S5:=hs.ok.aa.body _ (fu (l:=p.aa.au) (k:=i) jB);have Tp:=hs.ok.aa.shape (nth p.aa.au i).body.toNat (by have:=RC.1;have:=RC.2;omega);have hb:=v8 (p:=p) (f:=fR p (lR p)) (ao p (nth p.aa.au i).body).l (eN p i).ins.length (nV p.aa i) (nth p.aa.au i).body.toNat hc fun x hx k lo SR=>by have hb:=Tp.2.1 x hx;have:=RC.1;have:=RC.2;exact zO hs.ok.aa _ x k lo hb.1 jB (Tp.1.block S5 x hx) SR
  show((eN p i).ins++pN p (lR p) (nth p.aa.au i).body (eN p i).ins.length++[iI 22 (nth p.aa.au i).ret]).length<=_;rw[List.length_append,List.length_append,List.length_singleton];have:=RC.1;have:=RC.2;unfold pN;have:(nth p.aa.au i).body.toNat<=300:=jB;omega
def sM(hs:fG p):sP p (cC p):=by
 have e:cC p=eN p p.aa.au.length:=by unfold cC eN;rw[List.take_length]
 have hf:=hs.ok.aa.au;rw[e];exact⟨xr p _ jl,fun j hj=>F0 p j _ hj jl,by have:=yX hs _ (Nat.le_refl p.aa.au.length);omega⟩
def pr(p:ab)(C:aB):MV:=⟨[MV.iD p C (iO p) []],0,[],0,[],0,0,0⟩
end Go.Proofs.YtghoellpinmenaaGreatDoor
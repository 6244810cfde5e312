/- Lemmas. No conditions. -/
import Derived.Test.YtbjookcdpondlaaGreatDoorRpA
set_option linter.all false
set_option maxHeartbeats 4000000
namespace Go.Gd
open Go
def iI(op a:Int):av:=⟨op,a,0,sE⟩
def bz(f:Int->Int->List av)(from_:Int):SI->List av->List av
 |[],out=>out
 |x::l,out=>bz f from_ l (out++f x (from_+out.length))
def jW(s:SK):Int:=if s=(⟨#[38,38]⟩:SK)then 18 else if s=(⟨#[124,124]⟩:SK)then 19 else 7
def aV(p:ab):Nat->Int->Int->List av
 |0,_,_=>[]
 |n+1,a,from_=>
  let nd:=ao p a
  let x:=aV p n (nth nd.l 0) from_
  if nd.kind=1 then[iI 2 nd.n]
  else if nd.kind=2 then[iI 3 nd.n]
  else if nd.kind=3 then[⟨4,0,0,nd.name⟩]
  else if nd.kind=4 then[⟨5,nth p.slots a.toNat,nth p.types a.toNat,sE⟩]
  else if nd.kind=5 then x++[iI 11 (nth p.slots a.toNat)]
  else if nd.kind=6 then x++[iI 10 0]
  else if nd.kind=7 then x++[iI 8 0]
  else if nd.kind=8 then x++[iI 9 0]
  else if jW nd.name=7 then x++aV p n (nth nd.l 1) (from_+x.length)++[⟨7,0,0,nd.name⟩]
  else
   let y:=aV p n (nth nd.l 1) (from_+x.length+1)
   x++[iI (jW nd.name) (from_+x.length+1+y.length)]++y
def me(p:ab):Nat:=p.aa.nodes.length
def Dy(p:ab)(a:Int):Int:=ji bg.name (ao p a).name p.aa.aq 0 (-1)
def cW(p:ab)(n:Nat)(a from_:Int):List av:=bz (aV p n) from_ (ao p a).l []++[⟨20,Dy p a,(ao p a).l.length,sE⟩]
def jt(p:ab)(n:Nat)(a from_:Int):List av:=
 if(ao p a).kind=19 then[iI 14 0]
 else if(ao p a).kind=20 then aV p n (nth (ao p a).l 0) from_++[iI 13 0]
 else if(ao p a).kind=21 then cW p n a from_
 else aV p n a from_
def p9(p:ab)(n:Nat)(bl:Int->Int->List av)(a from_:Int):List av:=
 let nd:=ao p a
 let x:=aV p n (nth nd.l 0) from_
 let b:=bl (nth nd.l 1) (from_+x.length+1)
 if nd.kind=16 then x++[iI 17 (from_+x.length+1+(b.length+1))]++(b++[iI 16 (from_-1)])
 else if nd.l.length=3 then
  let c:=bl (nth nd.l 2) (from_+x.length+1+b.length+1)
  x++[iI 17 (from_+x.length+1+(b.length+1))]++(b++[iI 16 (from_+x.length+1+b.length+1+c.length)])++c
 else x++[iI 17 (from_+x.length+1+b.length)]++b
def gX(p:ab):Nat->Int->Int->List av
 |0,_,_=>[]
 |n+1,a,from_=>
  let nd:=ao p a
  let at_:=from_+1
  let x:=aV p n (nth nd.l 0) at_
  iI 1 a::(
   if nd.kind=10\/nd.kind=11 then jt p n (nth nd.l 0) at_++[iI 6 (nth p.slots a.toNat)]
   else if nd.kind=12 then x++aV p n (nth nd.l 1) (at_+x.length)++[iI 12 (nth p.slots a.toNat)]
   else if nd.kind=13 then cW p n (nth nd.l 0) at_++[iI 23 0]
   else if nd.kind=14 then x++[iI 15 0]
   else if nd.kind=17 then(if nd.l.length=0 then[iI 22 0]else x++[iI 21 0])
   else p9 p n (fun b f=>bz (gX p n) f (ao p b).l []) a at_)
def qZ(p:ab)(n:Nat)(b from_:Int):List av:=bz (gX p n) from_ (ao p b).l []
def Ce(p:ab)(c:aI)(f:bg):aI:=⟨c.ins++qZ p (me p) f.body c.ins.length++[iI 22 f.ret],c.entry++[(c.ins.length:Int)]⟩
def kN(p:ab):aI:=p.aa.aq.foldl (Ce p) ⟨[],[]⟩
structure MC where
 fn:Int
 at_:Int
 mark:Int
 slots:List ak
 stack:List ak
 bw:Nat
 deriving Inhabited
structure MV where
 calls:List MC
 bw:Nat
 heap:List (List Int)
 in_:Int
 aC:List ByteArray
 status:Int
 bp:Int
 time:Int
namespace MC
def push(c:MC)(v:ak):MC:={ c with stack:=c.stack++[v],bw:=c.bw-1 }
def last(c:MC):ak:=nth c.stack (c.stack.length-1)
def cut(c:MC)(n:Nat):MC:={ c with stack:=c.stack.take (c.stack.length-n),bw:=c.bw+n }
def jump(c:MC)(a:Int):MC:={ c with at_:=a }
def back(c:MC):MC:={ c with at_:=c.mark,stack:=[],bw:=0 }
end MC
namespace MV
def aj(m:MV):MC:=nth m.calls (m.calls.length-1)
def aS(m:MV)(c:MC):MV:={ m with calls:=m.calls.set (m.calls.length-1) c }
def push(m:MV)(v:ak):MV:=m.aS (m.aj.push v)
def cut(m:MV)(n:Nat):MV:=m.aS (m.aj.cut n)
def stops(m:MV)(status bp:Int):MV:={ m.aS m.aj.back with status:=status,bp:=bp }
def eK(m:MV)(r:ak×Int):MV:=if r.2≠0 then m.stops 3 r.2 else m.push r.1
def pop(m:MV):MV:={ m with calls:=m.calls.take (m.calls.length-1),bw:=m.bw+1 }
def ends(m:MV)(v:ak):MV:=if m.calls.length<=1 then{ m.pop with status:=2 }else m.pop.push v
def iX(C:aI)(fn:Int):Int:=nth C.entry fn.toNat
def iw(p:ab)(C:aI)(fn:Int)(args:List ak):MC:=⟨fn,iX C fn,iX C fn,args++List.replicate ((nth p.size fn.toNat)-args.length).toNat v0,[],0⟩
def cV(m:MV)(p:ab)(C:aI)(fn:Int)(args:List ak):MV:={ m with calls:=m.calls++[iw p C fn args],bw:=m.bw-1 }
def bE(h:SH)(n:Int):SI:=if n<1\/(h.length:Int)<n then[]else nth h (n-1).toNat
def ins(m:MV)(p:ab)(C:aI)(inp:SI)(x:av):MV:=
 let c:=m.aj
 let l:=c.last
 let k:=(c.cut 1).last
 if x.op=2 then m.push (vI x.a)
 else if x.op=3 then m.push (vB (decide (x.a=1)))
 else if x.op=4 then m.push (vT x.s)
 else if x.op=5 then m.push (di c.slots x.a x.b)
 else if x.op=6 then m.aS { c.cut 1 with slots:=c.slots.set x.a.toNat l }
 else if x.op=7 then(m.cut 2).eK (jq x.s k l)
 else if x.op=8 then(m.cut 1).push (jX (⟨#[45]⟩:SK) l)
 else if x.op=9 then(m.cut 1).push (jX (⟨#[33]⟩:SK) l)
 else if x.op=10 then(m.cut 1).push (vI (if l.ty=4 then((bE m.heap l.n).length:Int)else(l.s.size:Int)))
 else if x.op=11 then
  let L:=bE m.heap (di c.slots x.a 4).n
  if l.n<0\/(L.length:Int)<=l.n then(m.cut 1).stops 3 2 else(m.cut 1).push (vI (nth L l.n.toNat))
 else if x.op=12 then
  let a:=(di c.slots x.a 4).n
  if k.n<0\/((bE m.heap a).length:Int)<=k.n then(m.cut 2).stops 3 2
  else{ m.cut 2 with heap:=m.heap.set (a-1).toNat ((nth m.heap (a-1).toNat).set k.n.toNat l.n) }
 else if x.op=13 then
  if l.n<0\/16<l.n then(m.cut 1).stops 3 7
  else if 40<fF m.heap+l.n+1 then(m.cut 1).stops 3 4
  else{ (m.cut 1).push ⟨4,m.heap.length+1,sE⟩with heap:=m.heap++[List.replicate l.n.toNat 0] }
 else if x.op=14 then
  if(inp.length:Int)<=m.in_ then m.stops 1 0 else{ m.push (vI (nth inp m.in_.toNat))with in_:=m.in_+1 }
 else if x.op=15 then
  if 24<=m.aC.length then m.stops 3 5 else{ m.cut 1 with aC:=m.aC++[iN l] }
 else if x.op=16 then m.aS (c.jump x.a)
 else if x.op=17 then(if l.n=0 then m.aS ((c.cut 1).jump x.a)else m.cut 1)
 else if x.op=18\/x.op=19 then(if(l.n=1<->x.op=19)then m.aS (c.jump x.a)else m.cut 1)
 else if x.op=20 then
  let m1:=m.cut x.b.toNat
  if 8<=m.calls.length then m1.stops 3 3 else m1.cV p C x.a (c.stack.drop (c.stack.length-x.b.toNat))
 else if x.op=21 then(m.cut 1).ends l
 else if x.op=22 then m.ends (vZ x.a)
 else if x.op=23 then m.cut 1
 else m
def br(m:MV)(C:aI):av:=nth C.ins m.aj.at_.toNat
def one(m:MV)(p:ab)(C:aI)(inp:SI):MV:=(m.aS (m.aj.jump (m.aj.at_+1))).ins p C inp (m.br C)
structure cX(m:MV)(p:ab)(C:aI):Prop where
 calls:1<=m.calls.length
 nn:m.calls.length<=8
 a0:0<=m.aj.at_
 a1:m.aj.at_<C.ins.length
 one:(m.br C).op=6\/(m.br C).op=8\/(m.br C).op=9\/(m.br C).op=10\/(m.br C).op=11\/(m.br C).op=13\/(m.br C).op=15\/(m.br C).op=17\/(m.br C).op=18\/(m.br C).op=19\/(m.br C).op=21\/(m.br C).op=23->1<=m.aj.stack.length
 two:(m.br C).op=7\/(m.br C).op=12->2<=m.aj.stack.length
 slot:(m.br C).op=5\/(m.br C).op=6\/(m.br C).op=11\/(m.br C).op=12->0<=(m.br C).a/\(m.br C).a<m.aj.slots.length
 bool:(m.br C).op=17\/(m.br C).op=18\/(m.br C).op=19->m.aj.last.n=0\/m.aj.last.n=1
 len:(m.br C).op=10->m.aj.last.ty=3\/m.aj.last.ty=4
 call:(m.br C).op=20->0<=(m.br C).b/\(m.br C).b<=m.aj.stack.length/\(m.br C).b<=3/\0<=(m.br C).a/\(m.br C).a<C.entry.length/\(m.br C).a<p.size.length/\0<=nth p.size (m.br C).a.toNat/\nth p.size (m.br C).a.toNat<=24/\(m.br C).b<=nth p.size (m.br C).a.toNat
 op:1<=(m.br C).op/\(m.br C).op<=23
 word:(m.br C).op=15->dr m.aj.last.n
 ko:∀v∈m.aj.stack,v.s.size<=40
 deep:m.aj.stack.length<=1000
end MV
def bR(C:List av)(k:Nat)(c:List av):Prop:=∃post,C.drop k=c++post
variable{C:List av}{k:Nat}
def bR.app{a b:List av}(h:bR C k (a++b)):bR C k a/\bR C (k+a.length) b:=by obtain⟨post,e⟩:=h;refine⟨⟨b++post,by rw[e,List.append_assoc]⟩,⟨post,?_⟩⟩;rw[<-List.drop_drop,e,List.append_assoc,List.drop_left]
def bR.head{x:av}{c:List av}(h:bR C k (x::c)):k<C.length/\nth C k=x/\bR C (k+1) c:=by
 obtain⟨post,e⟩:=h;have hk:k<C.length:=Classical.byContradiction fun h=>by rw[List.drop_eq_nil_of_le jB]at e;cases e
 refine⟨hk,?_,⟨post,?_⟩⟩
 ·rw[List.drop_eq_getElem_cons hk]at e;rw[dV hk];exact(List.cons.inj e).1
 ·rw[List.drop_eq_getElem_cons hk]at e;exact(List.cons.inj e).2
def bR.last{x:av}{c:List av}(h:bR C k (c++[x])):bR C k c/\k+c.length<C.length/\nth C (k+c.length)=x:=
 ⟨h.app.1,h.app.2.head.1,h.app.2.head.2.1⟩
theorem uO(f:Int->Int->List av):∀(L:SI) (k:Int) (out:List av),bz f k L out=out++bz f (k+out.length) L []
 |[],k,out=>by simp[bz]
 |x::L,k,out=>by show bz f k L (out++f x (k+out.length))=out++bz f (k+out.length) L ([]++f x (k+out.length+(0:Nat)));rw[uO f L k,uO f L (k+out.length) _];simp only[List.nil_append,List.length_append,List.append_assoc,Int.natCast_add,Int.natCast_zero,Int.add_zero,Int.add_assoc]
theorem xD(f:Int->Int->List av):∀(A B:SI) (k:Int) (out:List av),bz f k (A++B) out=bz f k B (bz f k A out)
 |[],B,k,out=>rfl
 |x::A,B,k,out=>xD f A B k _
theorem Ew{f g:Int->Int->List av}:∀(L:SI) (k:Int) (out:List av),(∀x∈L,∀j,f x j=g x j)->bz f k L out=bz g k L out
 |[],_,_,_=>rfl
 |x::L,k,out,h=>by show bz f k L (out++f x _)=bz g k L (out++g x _);rw[h x jE,Ew L k _ fun y hy=>h y (by simp[hy])]
def nD(f:Int->Int->List av)(k:Nat)(L:SI)(i:Nat):Nat:=k+(bz f k (L.take i) []).length
def DJ(f:Int->Int->List av)(k:Nat)(L:SI)(i:Nat)(h:i<L.length):nD f k L (i+1)=nD f k L i+(f (nth L i) (nD f k L i)).length:=by unfold nD;rw[show L.take (i+1)=L.take i++[nth L i] by rw[List.take_succ,List.getElem?_eq_getElem h,dV h];rfl,xD];show k+(bz f k (L.take i) []++f (nth L i) _).length=_;rw[List.length_append,Nat.add_assoc,Int.natCast_add]
def Le(f:Int->Int->List av)(k:Nat)(L:SI):nD f k L L.length=k+(bz f k L []).length:=by unfold nD;rw[List.take_length]
def z7{f:Int->Int->List av}{L:SI}(h:bR C k (bz f k L [])){i:Nat}(hi:i<L.length):bR C (nD f k L i) (f (nth L i) (nD f k L i)):=by
 have e:L=L.take i++nth L i::L.drop (i+1):=by rw[dV hi,List.getElem_cons_drop,List.take_append_drop]
 rw[e,xD]at h;have h2:bR C k (bz f k (L.drop (i+1)) (bz f k (L.take i) []++f (nth L i) (k+(bz f k (L.take i) []).length))):=h;rw[uO]at h2;have h3:=h2.app.1.app.2;unfold nD;rw[Int.natCast_add];exact h3
namespace MV
variable{M:MV}
def bc(h:1<=M.calls.length)(c:MC):(M.aS c).aj=c:=by show nth (M.calls.set _ c) ((M.calls.set _ c).length-1)=c;rw[List.length_set];exact(Go.Gd.aY _ _ _ _ jB).trans (if_pos rfl)
def dm(M:MV)(c d:MC):(M.aS c).aS d=M.aS d:=by show({ M with calls:=(M.calls.set _ c).set ((M.calls.set _ c).length-1) d }:MV)=_;rw[List.length_set,List.set_set];rfl
def aO(M:MV)(c:MC):(M.aS c).calls.length=M.calls.length:=by show(M.calls.set _ c).length=_;simp
def rk(M:MV)(h:1<=M.calls.length):M.aS M.aj=M:=by show({ M with calls:=M.calls.set (M.calls.length-1) (nth M.calls (M.calls.length-1)) }:MV)=M;rw[dV jB,List.set_getElem_self]
def iy(M:MV)(c:MC):(M.aS c).heap=M.heap:=rfl
def fU(M:MV)(c:MC)(s t:Int):MV:={ M.aS c.back with status:=s,bp:=t }
def dY(h:1<=M.calls.length)(c:MC)(s t:Int):(M.aS c).stops s t=M.fU c s t:=by unfold stops fU;rw[bc h,dm]
def eX(h:1<=M.calls.length)(c:MC)(v:ak):(M.aS c).push v=M.aS (c.push v):=by unfold push;rw[bc h,dm]
def dc(h:1<=M.calls.length)(c:MC)(n:Nat):(M.aS c).cut n=M.aS (c.cut n):=by unfold cut;rw[bc h,dm]
end MV
section
variable (m:MV)(p:ab)(C:aI)(inp:SI)(a b:Int)(s:SK)
def MV.sj:m.ins p C inp (iI 2 a)=m.push (vI a):=rfl
def MV.pG:m.ins p C inp (iI 3 a)=m.push (vB (decide (a=1))):=rfl
def MV.pC:m.ins p C inp ⟨4,a,b,s⟩=m.push (vT s):=rfl
def MV.pM:m.ins p C inp ⟨5,a,b,s⟩=m.push (di m.aj.slots a b):=rfl
def MV.lu:m.ins p C inp (iI 6 a)=m.aS { m.aj.cut 1 with slots:=m.aj.slots.set a.toNat m.aj.last }:=rfl
def MV.q9:m.ins p C inp ⟨7,a,b,s⟩=(m.cut 2).eK (jq s (m.aj.cut 1).last m.aj.last):=rfl
def MV.rW:m.ins p C inp (iI 8 a)=(m.cut 1).push (jX (⟨#[45]⟩:SK) m.aj.last):=rfl
def MV.sa:m.ins p C inp (iI 9 a)=(m.cut 1).push (jX (⟨#[33]⟩:SK) m.aj.last):=rfl
def MV.se:m.ins p C inp (iI 10 a)=(m.cut 1).push (vI (if m.aj.last.ty=4 then((bE m.heap m.aj.last.n).length:Int)else(m.aj.last.s.size:Int))):=rfl
def MV.oH:m.ins p C inp (iI 11 a)=if m.aj.last.n<0\/((bE m.heap (di m.aj.slots a 4).n).length:Int)<=m.aj.last.n then(m.cut 1).stops 3 2 else(m.cut 1).push (vI (nth (bE m.heap (di m.aj.slots a 4).n) m.aj.last.n.toNat)):=rfl
def MV.rT:m.ins p C inp (iI 12 a)=if(m.aj.cut 1).last.n<0\/((bE m.heap (di m.aj.slots a 4).n).length:Int)<=(m.aj.cut 1).last.n then(m.cut 2).stops 3 2
  else{ m.cut 2 with heap:=m.heap.set ((di m.aj.slots a 4).n-1).toNat ((nth m.heap ((di m.aj.slots a 4).n-1).toNat).set (m.aj.cut 1).last.n.toNat m.aj.last.n) }:=rfl
def MV.ry:m.ins p C inp (iI 13 a)=if m.aj.last.n<0\/16<m.aj.last.n then(m.cut 1).stops 3 7
  else if 40<fF m.heap+m.aj.last.n+1 then(m.cut 1).stops 3 4
  else{ (m.cut 1).push ⟨4,m.heap.length+1,sE⟩with heap:=m.heap++[List.replicate m.aj.last.n.toNat 0] }:=rfl
def MV.oT:m.ins p C inp (iI 14 a)=if(inp.length:Int)<=m.in_ then m.stops 1 0 else{ m.push (vI (nth inp m.in_.toNat))with in_:=m.in_+1 }:=rfl
def MV.o3:m.ins p C inp (iI 15 a)=if 24<=m.aC.length then m.stops 3 5 else{ m.cut 1 with aC:=m.aC++[iN m.aj.last] }:=rfl
def MV.pD:m.ins p C inp (iI 16 a)=m.aS (m.aj.jump a):=rfl
def MV.lr:m.ins p C inp (iI 17 a)=if m.aj.last.n=0 then m.aS ((m.aj.cut 1).jump a)else m.cut 1:=rfl
def MV.n6:m.ins p C inp (iI 18 a)=if m.aj.last.n=1 then m.cut 1 else m.aS (m.aj.jump a):=by
 show(if(m.aj.last.n=1<->(18:Int)=19)then m.aS (m.aj.jump a)else m.cut 1)=_;by_cases h:m.aj.last.n=1
 ·rw[if_pos h,if_neg (fun e=>absurd (e.1 h) jC)]
 ·rw[if_neg h,if_pos ⟨fun e=>(h e).elim,fun e=>absurd e jC⟩]
def MV.qq:m.ins p C inp (iI 19 a)=if m.aj.last.n=1 then m.aS (m.aj.jump a)else m.cut 1:=by
 show(if(m.aj.last.n=1<->(19:Int)=19)then m.aS (m.aj.jump a)else m.cut 1)=_;by_cases h:m.aj.last.n=1
 ·rw[if_pos h,if_pos ⟨fun _=>rfl,fun _=>h⟩]
 ·rw[if_neg h,if_neg (fun e=>h (e.2 rfl))]
def MV.pU:m.ins p C inp ⟨20,a,b,s⟩=if 8<=m.calls.length then(m.cut b.toNat).stops 3 3 else(m.cut b.toNat).cV p C a (m.aj.stack.drop (m.aj.stack.length-b.toNat)):=rfl
def MV.rF:m.ins p C inp (iI 21 a)=(m.cut 1).ends m.aj.last:=rfl
def MV.mq:m.ins p C inp (iI 22 a)=m.ends (vZ a):=rfl
def MV.rL:m.ins p C inp (iI 23 a)=m.cut 1:=rfl
end
inductive iv(p:ab)(C:aI)(inp:List Int):Nat->MV->MV->Prop
 |refl (m:MV):iv p C inp 0 m m
 |step {n:Nat} {m m':MV} (h0:m.status=0) (h1:(m.br C).op≠1) (hok:m.cX p C) (h:iv p C inp n (m.one p C inp) m'):iv p C inp (n+1) m m'
def aW(p:ab)(C:aI)(inp:SI)(m m':MV):Prop:=∃n,iv p C inp n m m'
theorem aW.refl{p:ab}{C:aI}{inp:SI}(m:MV):aW p C inp m m:=⟨0,.refl m⟩
variable{p:ab}
def iv.trans{C:aI}{inp:SI}{n:Nat}{a b:MV}(h:iv p C inp n a b):∀{k c},iv p C inp k b c->iv p C inp (n+k) a c:=by
 induction h with
 |refl m=>intro k c hk;rw[Nat.zero_add];exact hk
 |step h0 h1 hok _ ih=>intro k c hk;rw[Nat.add_right_comm];exact .step h0 h1 hok (ih hk)
theorem aW.trans{p:ab}{C:aI}{inp:SI}{a b c:MV}(h:aW p C inp a b)(k:aW p C inp b c):aW p C inp a c:=by obtain⟨n,h⟩:=h;obtain⟨m,k⟩:=k;exact⟨n+m,h.trans k⟩
theorem aW.ins{p:ab}{C:aI}{inp:SI}{M m':MV}{c:MC}{k:Nat}{x:av}(h1:1<=M.calls.length)(h8:M.calls.length<=8)(hs:M.status=0)(hk:c.at_=k)(SX:k<C.ins.length)(hx:nth C.ins k=x)(UD:x.op≠1)
  (hok:(M.aS c).cX p C) (hg:aW p C inp ((M.aS { c with at_:=(k:Int)+1 }).ins p C inp x) m'):aW p C inp (M.aS c) m':=by
 obtain⟨n,hg⟩:=hg;have hi:(M.aS c).br C=x:=by unfold MV.br;rw[MV.bc h1,hk,Int.toNat_natCast,hx]
 refine⟨n+1,.step hs (by rw[hi];exact UD) hok ?_⟩;unfold MV.one;rw[hi,MV.bc h1,MV.dm];unfold MC.jump;rw[hk];exact hg
def cX.pQ{C:aI}{M:MV}{c:MC}{x:av}(h1:1<=M.calls.length)(h8:M.calls.length<=8)(hk:c.at_=k)(SX:k<C.ins.length)(hx:nth C.ins k=x)
  (one:x.op=6\/x.op=8\/x.op=9\/x.op=10\/x.op=11\/x.op=13\/x.op=15\/x.op=17\/x.op=18\/x.op=19\/x.op=21\/x.op=23->1<=c.stack.length)
  (two:x.op=7\/x.op=12->2<=c.stack.length)
  (slot:x.op=5\/x.op=6\/x.op=11\/x.op=12->0<=x.a/\x.a<c.slots.length)
  (bool:x.op=17\/x.op=18\/x.op=19->c.last.n=0\/c.last.n=1)
  (len:x.op=10->c.last.ty=3\/c.last.ty=4)
  (call:x.op=20->0<=x.b/\x.b<=c.stack.length/\x.b<=3/\0<=x.a/\x.a<C.entry.length/\x.a<p.size.length/\0<=nth p.size x.a.toNat/\nth p.size x.a.toNat<=24/\x.b<=nth p.size x.a.toNat)
  (op:1<=x.op/\x.op<=23) (word:x.op=15->dr c.last.n) (ko:∀v∈c.stack,v.s.size<=40) (deep:c.stack.length<=1000):(M.aS c).cX p C:=by
 have hi:(M.aS c).br C=x:=by unfold MV.br;rw[MV.bc h1,hk,Int.toNat_natCast,hx]
 have ht:=MV.bc h1 c;refine⟨by rw[MV.aO];exact h1,by rw[MV.aO];exact h8,by rw[ht,hk];omega,by rw[ht,hk];omega,?_,?_,?_,?_,?_,?_,?_,?_,?_,?_⟩
 ·rw[hi,ht];exact one
 ·rw[hi,ht];exact two
 ·rw[hi,ht];exact slot
 ·rw[hi,ht];exact bool
 ·rw[hi,ht];exact len
 ·rw[hi,ht];exact call
 ·rw[hi];exact op
 ·rw[hi,ht];exact word
 ·rw[ht];exact ko
 ·rw[ht];exact deep
def vp(p:ab)(C:aI)(inp:SI)(M:MV)(c:MC)(r:ak×Int)(k:Int):Prop:=
 (r.2=0->∃q,aW p C inp (M.aS c) (M.aS { c with at_:=k,stack:=c.stack++[r.1],bw:=q }))/\(r.2≠0->aW p C inp (M.aS c) (M.fU c 3 r.2))
namespace MV
def cJ(c:MC)(v:ak)(st:List ak)(a:Int)(q:Nat):MC.last { c with at_:=a,stack:=st++[v],bw:=q }=v:=by show nth (st++[v]) ((st++[v]).length-1)=v;rw[List.length_append,List.length_singleton,Nat.add_sub_cancel];exact mn _ _
def fw(c:MC)(v:ak)(st:List ak)(a:Int)(q:Nat):MC.cut { c with at_:=a,stack:=st++[v],bw:=q } 1={ c with at_:=a,stack:=st,bw:=q+1 }:=by show MC.mk c.fn a c.mark c.slots ((st++[v]).take ((st++[v]).length-1)) (q+1)=_;rw[List.length_append,List.length_singleton,Nat.add_sub_cancel,List.take_left]
def oA(c:MC)(u v:ak)(st:List ak)(a:Int)(q:Nat):MC.cut { c with at_:=a,stack:=st++[u]++[v],bw:=q } 2={ c with at_:=a,stack:=st,bw:=q+2 }:=by show MC.mk c.fn a c.mark c.slots ((st++[u]++[v]).take ((st++[u]++[v]).length-2)) (q+2)=_;rw[List.append_assoc,List.length_append,show([u]++[v]).length=2 from rfl,Nat.add_sub_cancel,List.take_left]
end MV
def H4(p:ab)(x:Int):bP:=⟨(ao p x).name,nth p.types (nth (ao p x).l 0).toNat,nth p.slots x.toNat⟩
def oG(p:ab)(x:Int)(vars:List bP):List bP:=if(ao p x).kind=10 then vars++[H4 p x]else vars
def nF:List bQ->Int->List bP
 |[],_=>[]
 |x::l,i=>⟨x.name,x.ty,i⟩::nF l (i+1)
def rY(p:ab)(f:aH):lh:=⟨f.fn,nth (ao p f.pl.block).l f.pl.at_.toNat,f.slots⟩
def po(p:ab)(s:aM):ld:=⟨s.ap.map (rY p),s.heap,s.in_,s.aC,s.status,s.bp,s.time⟩
def nB(p:ab)(L:SI)(vars:List bP):List bP:=L.foldl (fun v x=>oG p x v) vars
def B5(p:ab)(A B:SI)(vars:List bP):nB p (A++B) vars=nB p B (nB p A vars):=List.foldl_append
def vF(p:ab)(x:Int):Int:=ji bg.name (ao p x).name p.aa.aq 0 (-1)
structure qt(p:ab)(x:Int):Prop where
 ret:nth p.types x.toNat=(nth p.aa.aq (vF p x).toNat).ret
 args:∀i,i<(ao p x).l.length->nth p.types (nth (ao p x).l i).toNat=(nth (nth p.aa.aq (vF p x).toNat).params i).ty
structure yo(p:ab)(j:Nat)(kids:List bP->Int->Prop)(vars:List bP)(x:Int):Prop where
 fn:nth p.fn x.toNat=j
 pL:(ao p x).kind=10->∀v∈vars,v.name≠(ao p x).name/\v.slot≠nth p.slots x.toNat
 set:(ao p x).kind=11->∃v∈vars,v.name=(ao p x).name/\v.slot=nth p.slots x.toNat/\v.ty=nth p.types (nth (ao p x).l 0).toNat
 put:(ao p x).kind=12->∃v∈vars,v.name=(ao p x).name/\v.slot=nth p.slots x.toNat/\v.ty=4
 call:(ao p x).kind=10\/(ao p x).kind=11\/(ao p x).kind=13->(ao p (nth (ao p x).l 0)).kind=21->qt p (nth (ao p x).l 0)
 ret:(ao p x).kind=17->((ao p x).l.length=1->nth p.types (nth (ao p x).l 0).toNat=(nth p.aa.aq j).ret)/\((ao p x).l.length≠1->(nth p.aa.aq j).ret=0)
 kids:(ao p x).kind=15\/(ao p x).kind=16->∀b∈(ao p x).l.drop 1,kids vars b
def vX(s:List bP->Int->Prop)(p:ab):List bP->SI->Prop
 |_,[]=>True
 |vars,x::l=>s vars x/\vX s p (oG p x vars) l
def oP(p:ab)(j:Nat):Nat->List bP->Int->Prop
 |0,_,_=>True
 |n+1,vars,b=>vX (yo p j (oP p j n)) p vars (ao p b).l
def p8(l:List bP):Prop:=l.Pairwise fun v w=>v.name≠w.name/\v.slot≠w.slot
structure pS(p:ab)(j:Nat):Prop where
 env:p8 (nF (nth p.aa.aq j).params 0)
 body:∀m,oP p j m (nF (nth p.aa.aq j).params 0) (nth p.aa.aq j).body
def ph(p:ab):List bP->List bk->List bP
 |vars,[]=>vars
 |vars,x::l=>ph p (nB p ((dz p x.block).take x.at_.toNat) vars) l
theorem sW(p:ab):∀(l m:List bk) (vars:List bP),ph p vars (l++m)=ph p (ph p vars l) m
 |[],_,_=>rfl
 |x::l,m,vars=>sW p l m _
def qn(p:ab)(x:bk)(b:Int):Prop:=∃i:Nat,((i:Int)=x.at_\/(i:Int)+1=x.at_)/\i<(dz p x.block).length/\((ao p (nth (dz p x.block) i)).kind=15\/(ao p (nth (dz p x.block) i)).kind=16)/\b∈(ao p (nth (dz p x.block) i)).l.drop 1
def qN(p:ab):(Int->Prop)->List bk->Prop
 |_,[]=>True
 |q,x::l=>q x.block/\qN p (qn p x) l
def Aw(p:ab):(Int->Prop)->List bk->Int->Prop
 |q,[]=>q
 |_,x::l=>Aw p (qn p x) l
theorem ud(p:ab):∀(l m:List bk) (q:Int->Prop),qN p q (l++m)<->qN p q l/\qN p (Aw p q l) m
 |[],m,q=>⟨fun h=>⟨trivial,h⟩,fun h=>h.2⟩
 |x::l,m,q=>by show(_/\qN p (qn p x) (l++m))<->(_/\_)/\_;rw[ud p l m (qn p x)];exact⟨fun⟨a,b,c⟩=>⟨⟨a,b⟩,c⟩,fun⟨⟨a,b⟩,c⟩=>⟨a,b,c⟩⟩
theorem Fy(p:ab):∀(l:List bk) (x:bk) (q:Int->Prop),Aw p q (l++[x])=qn p x
 |[],_,_=>rfl
 |y::l,x,q=>Fy p l x (qn p y)
variable{vars:List bP}
def BE{a:Int}(h:(ao p a).kind≠10):oG p a vars=vars:=if_neg h
def xX{α:Type}[Inhabited α](l:List α)(i:Nat)(h:i<l.length):l.take (i+1)=l.take i++[nth l i]:=by rw[List.take_succ,List.getElem?_eq_getElem h,dV h];rfl
def Oz{x:bk}{i:Nat}(h:(i:Int)=x.at_\/(i:Int)+1=x.at_)(hi:i<(dz p x.block).length)(hk:(ao p (nth (dz p x.block) i)).kind=15\/(ao p (nth (dz p x.block) i)).kind=16)(vars:List bP):nB p ((dz p x.block).take x.at_.toNat) vars=nB p ((dz p x.block).take i) vars:=by
 rcases h with h|h
 ·rw[<-h,Int.toNat_natCast]
 ·rw[<-h,show((i:Int)+1).toNat=i+1 from jB,xX _ _ hi,B5];exact BE jB
theorem BY{s:List bP->Int->Prop}{p:ab}:∀(L:SI) (vars:List bP),vX s p vars L->∀i,i<L.length->s (nB p (L.take i) vars) (nth L i)
 |[],_,_,i,hi=>by simp at hi
 |x::L,vars,h,0,_=>h.1
 |x::L,vars,h,i+1,hi=>BY L _ h.2 i (by simpa using hi)
def Iu{j:Nat}{x:bk}{b:Int}(h:∀m,oP p j m vars x.block)(k:qn p x b):∀m,oP p j m (nB p ((dz p x.block).take x.at_.toNat) vars) b:=fun m=>by obtain⟨i,h1,h2,h3,h4⟩:=k;have:=BY _ _ (h (m+1)) i h2;rw[Oz h1 h2 h3];exact this.kids h3 b h4
theorem DW{p:ab}{j:Nat}:∀(l:List bk) (q:Int->Prop) (vars:List bP) (x:bk),qN p q (l++[x])->(∀b,q b->∀m,oP p j m vars b)->∀m,oP p j m (ph p vars l) x.block
 |[],q,vars,x,h,hq=>hq _ h.1
 |y::l,q,vars,x,h,hq=>DW l (qn p y) _ x h.2 fun b hb=>Iu (hq _ h.1) hb
def Nx{x:Int}(hv:p8 vars)(h:(ao p x).kind=10->∀v∈vars,v.name≠(ao p x).name/\v.slot≠nth p.slots x.toNat):p8 (oG p x vars):=by
 unfold oG;split
 ·rename_i k;refine List.pairwise_append.2 ⟨hv,jE,fun v hv w hw=>?_⟩;rw[List.mem_singleton.1 hw];exact h k v hv
 ·exact hv
theorem Gr{p:ab}{j m:Nat}:∀(L:SI) (vars:List bP),vX (yo p j (oP p j m)) p vars L->p8 vars->∀i,p8 (nB p (L.take i) vars)
 |[],vars,_,hv,i=>by rw[List.take_nil];exact hv
 |x::L,vars,h,hv,0=>hv
 |x::L,vars,h,hv,i+1=>Gr L _ h.2 (Nx hv h.1.pL) i
theorem IU{p:ab}{j:Nat}:∀(l:List bk) (q:Int->Prop) (vars:List bP),qN p q l->(∀b,q b->∀m,oP p j m vars b)->p8 vars->p8 (ph p vars l)
 |[],q,vars,_,_,hv=>hv
 |x::l,q,vars,h,hq,hv=>IU l (qn p x) _ h.2 (fun b hb=>Iu (hq _ h.1) hb) (Gr (m:=0) _ _ (hq _ h.1 1) hv _)
def Oc{x:Int}{v:bP}(h:v∈vars):v∈oG p x vars:=by
 unfold oG;split
 ·exact List.mem_append_left _ h
 ·exact h
theorem Ex{p:ab}{v:bP}:∀(L:SI) (vars:List bP),v∈vars->v∈nB p L vars
 |[],_,h=>h
 |x::L,vars,h=>Ex L _ (Oc h)
-- where a node is found
def cD(p:ab)(f:aH):Int:=nth (dz p f.pl.block) f.pl.at_.toNat
def kY(p:ab)(f:aH):List bP:=ph p (nF (nth p.aa.aq f.fn.toNat).params 0) f.path
structure oI(N:Int)(t:Int)(w:ak):Prop where
 ty:w.ty=t
 zU:jS w=true
 pI:w.ty=4->w.n<=N
def QB{w:ak}(h:jS w=true):1<=w.ty/\w.ty<=4:=by
 unfold jS at h;split at h
 ·omega
 split at h
 ·omega
 split at h
 ·omega
 split at h
 ·omega
 ·cases h
def xA{t:Int}(h:1<=t/\t<=4):jS (vZ t)=true:=by have:t=1\/t=2\/t=3\/t=4:=jB;rcases this with rfl|rfl|rfl|rfl<;>decide
def lE{f:aH}(h:f.path≠[]):f.path=f.path.take (f.path.length-1)++[f.pl]:=by have hl:=List.length_pos_iff.2 h;have:=xX f.path (f.path.length-1) jB;rw[show f.path.length-1+1=f.path.length from jB,List.take_length]at this;exact this
def oz{f:aH}(h:f.path≠[]):(fN f).path=f.path.take (f.path.length-1)++[⟨f.pl.block,f.pl.at_+1⟩]:=by
 have hl:=List.length_pos_iff.2 h;show f.path.set (f.path.length-1) _=_;have:∀(l:List bk) (x:bk),0<l.length->l.set (l.length-1) x=l.take (l.length-1)++[x]:=fun l x hl=>by
  apply List.ext_getElem
  ·simp;omega
  ·intro i h1 h2;rw[List.getElem_set,List.getElem_append];simp at h1;split
   ·rename_i e;rw[dif_neg jF];simp
   ·rename_i e;rw[dif_pos jF];simp
 exact this _ _ hl
def CS(p:ab)(f:aH)(g:Int):Prop:=((ao p (cD p f)).kind=10\/(ao p (cD p f)).kind=11\/(ao p (cD p f)).kind=13)/\(ao p (nth (ao p (cD p f)).l 0)).kind=21/\vF p (nth (ao p (cD p f)).l 0)=g
def lb(p:ab)(n:Nat)(k:Nat)(b:Int):List av:=bz (gX p n) k (dz p b) []
def cf(p:ab)(n:Nat)(k:Nat)(b:Int)(i:Nat):Nat:=nD (gX p n) k (dz p b) i
def wy(p:ab)(n:Nat)(x:bk)(k:Nat)(b:Int)(kb:Nat):Prop:=
 ∃i:Nat,i<(dz p x.block).length/\
  (((ao p (nth (dz p x.block) i)).kind=16/\x.at_=(i:Int)/\b=nth (ao p (nth (dz p x.block) i)).l 1/\
    kb=cf p (n+1) k x.block i+1+(aV p n (nth (ao p (nth (dz p x.block) i)).l 0) ((cf p (n+1) k x.block i+1:Nat):Int)).length+1)\/
     ((ao p (nth (dz p x.block) i)).kind=15/\x.at_=(i:Int)+1/\b=nth (ao p (nth (dz p x.block) i)).l 1/\
    kb=cf p (n+1) k x.block i+1+(aV p n (nth (ao p (nth (dz p x.block) i)).l 0) ((cf p (n+1) k x.block i+1:Nat):Int)).length+1)\/
     ((ao p (nth (dz p x.block) i)).kind=15/\x.at_=(i:Int)+1/\(ao p (nth (dz p x.block) i)).l.length=3/\b=nth (ao p (nth (dz p x.block) i)).l 2/\
    ∃k1,k1=cf p (n+1) k x.block i+1+(aV p n (nth (ao p (nth (dz p x.block) i)).l 0) ((cf p (n+1) k x.block i+1:Nat):Int)).length+1/\
     kb=k1+(lb p n k1 (nth (ao p (nth (dz p x.block) i)).l 1)).length+1))
inductive db(p:ab)(C:aI)(fn:Int):List bk->Nat->Nat->Prop
 |base (x:bk) (k:Nat) (hb:x.block=(nth p.aa.aq fn.toNat).body) (hk:nth C.entry fn.toNat=(k:Int)):db p C fn [x] (me p) k
 |deep (P:List bk) (x y:bk) (n k kb:Nat) (h:db p C fn (P++[x]) (n+1) k) (hk:wy p n x k y.block kb):db p C fn (P++[x]++[y]) n kb
structure dB(p:ab)(C:aI):Prop where
 len:C.entry.length=p.aa.aq.length
 at_:∀j,j<p.aa.aq.length->∃k:Nat,nth C.entry j=(k:Int)/\bR C.ins k (lb p (me p) k (nth p.aa.aq j).body++[iI 22 (nth p.aa.aq j).ret])
 rZ:C.ins.length<=1000000
def JB(p:ab)(C:aI)(fn:Int)(e:Nat):Prop:=∃k:Nat,nth C.entry fn.toNat=(k:Int)/\e=k+(lb p (me p) k (nth p.aa.aq fn.toNat).body).length
structure mf(p:ab)(C:aI)(f:aH)(c:MC):Prop where
 fn:c.fn=f.fn
 slots:c.slots=f.slots
 stack:c.stack=[]
 pos:f.path≠[]->∃n k,db p C f.fn f.path n k/\c.at_=(cf p n k f.pl.block f.pl.at_.toNat:Int)
 AE:f.path=[]->∃e,JB p C f.fn e/\c.at_=(e:Int)
structure rA(p:ab)(C:aI)(f:aH)(c:MC):Prop where
 fn:c.fn=f.fn
 slots:c.slots=f.slots
 stack:c.stack=[]
 pos:∃n k,db p C f.fn f.path n k/\c.mark=(cf p n k f.pl.block f.pl.at_.toNat:Int)/\c.at_+1=(cf p n k f.pl.block (f.pl.at_.toNat+1):Int)/\0<=c.at_/\c.at_<C.ins.length
 ins:nth C.ins c.at_.toNat=if(ao p (cD p f)).kind=13 then iI 23 0 else iI 6 (nth p.slots (cD p f).toNat)
structure iY(p:ab)(C:aI)(R:RS)(m:MV):Prop where
 len:m.calls.length=R.nf
 aj:1<=R.nf->mf p C R.ah m.aj
 low:∀k,k+1<R.nf->rA p C (nth R.aw k) (nth m.calls k)
 heap:m.heap=R.heap
 in_:m.in_=R.in_
 aC:m.aC=R.aC
 status:m.status=R.status
def Co{C:aI}{fn:Int}{P:List bk}{n:Nat}(h:db p C fn P n k):∀(Q:List bk) (x x':bk),P=Q++[x]->x'.block=x.block->db p C fn (Q++[x']) n k:=by
 intro Q x x' e hb;cases h with
 |base y k h1 h2=>
  obtain⟨rfl,e2⟩:Q=[]/\y=x:=by
   cases Q with
   |nil=>exact⟨rfl,by simpa using e⟩
   |cons q Q=>simp at e
  subst e2;exact .base x' k (hb.trans h1) h2
 |deep Q' y z n k0 _ h1 h2=>
  have e1:Q'++[y]=Q/\z=x:=by have:=List.append_inj' e rfl;exact⟨this.1,by simpa using this.2⟩
  obtain⟨rfl,rfl⟩:=e1;exact .deep Q' y x' n k0 k h1 (by rw[hb];exact h2)
end Go.Gd
namespace Go.Proofs.YtbjookcdpondlaaGreatDoor
open Go Go.Gd
def lL(p:ab)(j:Nat)(a:Int):Prop:=oK p.aa j<=a.toNat/\a.toNat<=(nth p.aa.aq j).body.toNat
variable{p:ab}{j:Nat}{a b:Int}
def lL.aE(h:cY p)(hj:j<p.aa.aq.length)(hi:lL p j a)(hb:b∈(ao p a).l):lL p j b/\0<=b/\b.toNat<a.toNat/\b.toNat<p.aa.nodes.length:=by
 have Uh:=pw h.ok.aa hj;have ha:a.toNat<p.aa.nodes.length:=by have:=hi.2;have:=Uh.1;have:=Uh.2;omega
 have h1:=(h.ok.aa.shape a.toNat ha).2.1 b hb;have hc:=(h.aq j hj).chain;have h2:=hi.2;have h3:=hi.1;refine⟨⟨?_,jB⟩,h1.1,h1.2,jB⟩;by_cases e:a.toNat<(nth p.aa.aq j).body.toNat
 ·exact hc.closed _ h3 e b hb
 ·have e:a.toNat=(nth p.aa.aq j).body.toNat:=jB;have Ul:b∈(nth p.aa.nodes a.toNat).l:=hb;rw[e]at Ul;exact(hc.mem b Ul).2.1
variable{C:aI}{inp:SI}{M:MV}{k:Nat}
def zq{c:MC}{x:av}{v:ak}(h1:1<=M.calls.length)(h8:M.calls.length<=8)(hs:M.status=0)(hk:c.at_=k)(hl:bR C.ins k [x])(UD:x.op≠1)(hok:(M.aS c).cX p C)
  (hi:(M.aS { c with at_:=(k:Int)+1 }).ins p C inp x=M.aS (MC.push { c with at_:=(k:Int)+1 } v)):vp p C inp M c (v,0) (k+1):=
 ⟨fun _=>⟨c.bw-1,aW.ins h1 h8 hs hk hl.head.1 hl.head.2.1 UD hok (by rw[hi];exact aW.refl _)⟩,fun h=>(h rfl).elim⟩
variable{α:Type}
def xy{P:α->Prop}{l:List α}{x:α}(h:∀v∈l,P v)(hx:P x):∀v∈l++[x],P v:=fun v hv=>by
 rcases List.mem_append.1 hv with hv|hv
 ·exact h v hv
 ·rw[List.mem_singleton.1 hv];exact hx
variable{r:ak×Int}
def u7{c:MC}{s:ak×Int}{k1 k2:Int}(hd:vp p C inp M c r k1)(ht:r.2≠0->s=(v0,r.2))
  (hn:r.2=0->∀q,(s.2=0->∃q',aW p C inp (M.aS { c with at_:=k1,stack:=c.stack++[r.1],bw:=q }) (M.aS { c with at_:=k2,stack:=c.stack++[s.1],bw:=q' }))/\(s.2≠0->aW p C inp (M.aS { c with at_:=k1,stack:=c.stack++[r.1],bw:=q }) (M.fU c 3 s.2))):vp p C inp M c s k2:=by
 by_cases e:r.2=0
 ·obtain⟨q,g⟩:=hd.1 e;refine⟨fun h=>?_,fun h=>g.trans ((hn e q).2 h)⟩;obtain⟨q',g'⟩:=(hn e q).1 h;exact⟨q',g.trans g'⟩
 ·rw[ht e];exact⟨fun h=>(e h).elim,fun _=>hd.2 e⟩
def yD{c:MC}{x:av}{u:ak}{q:Nat}(h1:1<=M.calls.length)(h8:M.calls.length<=8)(hs:M.status=0)(hl:bR C.ins k [x])(UD:x.op≠1)
  (hok:(M.aS { c with at_:=(k:Int),stack:=c.stack++[u],bw:=q }).cX p C)
  (hi:(M.aS { c with at_:=(k:Int)+1,stack:=c.stack++[u],bw:=q }).ins p C inp x=(M.aS { c with at_:=(k:Int)+1,stack:=c.stack,bw:=q+1 }).eK r) :
  (r.2=0->∃q',aW p C inp (M.aS { c with at_:=(k:Int),stack:=c.stack++[u],bw:=q }) (M.aS { c with at_:=(k:Int)+1,stack:=c.stack++[r.1],bw:=q' }))/\(r.2≠0->aW p C inp (M.aS { c with at_:=(k:Int),stack:=c.stack++[u],bw:=q }) (M.fU c 3 r.2)):=by
 have g:∀m',aW p C inp ((M.aS { c with at_:=(k:Int)+1,stack:=c.stack,bw:=q+1 }).eK r) m'->aW p C inp (M.aS { c with at_:=(k:Int),stack:=c.stack++[u],bw:=q }) m':=fun m' hg=>
  aW.ins (c:={ c with at_:=(k:Int),stack:=c.stack++[u],bw:=q }) h1 h8 hs rfl hl.head.1 hl.head.2.1 UD hok (by show aW p C inp ((M.aS { c with at_:=(k:Int)+1,stack:=c.stack++[u],bw:=q }).ins p C inp x) m';rw[hi];exact hg)
 refine⟨fun e=>⟨q+1-1,g _ ?_⟩,fun e=>g _ ?_⟩
 ·unfold MV.eK;rw[if_neg (fun h=>h e),MV.eX h1];exact aW.refl _
 ·unfold MV.eK;rw[if_pos e,MV.dY h1];exact aW.refl _
def KO{c:MC}{x:av}{u w:ak}{q:Nat}(h1:1<=M.calls.length)(h8:M.calls.length<=8)(hs:M.status=0)(hl:bR C.ins k [x])(UD:x.op≠1)
  (hok:(M.aS { c with at_:=(k:Int),stack:=c.stack++[u]++[w],bw:=q }).cX p C)
  (hi:(M.aS { c with at_:=(k:Int)+1,stack:=c.stack++[u]++[w],bw:=q }).ins p C inp x=(M.aS { c with at_:=(k:Int)+1,stack:=c.stack,bw:=q+2 }).eK r) :
  (r.2=0->∃q',aW p C inp (M.aS { c with at_:=(k:Int),stack:=c.stack++[u]++[w],bw:=q }) (M.aS { c with at_:=(k:Int)+1,stack:=c.stack++[r.1],bw:=q' }))/\(r.2≠0->aW p C inp (M.aS { c with at_:=(k:Int),stack:=c.stack++[u]++[w],bw:=q }) (M.fU c 3 r.2)):=by
 have g:∀m',aW p C inp ((M.aS { c with at_:=(k:Int)+1,stack:=c.stack,bw:=q+2 }).eK r) m'->aW p C inp (M.aS { c with at_:=(k:Int),stack:=c.stack++[u]++[w],bw:=q }) m':=fun m' hg=>
  aW.ins (c:={ c with at_:=(k:Int),stack:=c.stack++[u]++[w],bw:=q }) h1 h8 hs rfl hl.head.1 hl.head.2.1 UD hok (by show aW p C inp ((M.aS { c with at_:=(k:Int)+1,stack:=c.stack++[u]++[w],bw:=q }).ins p C inp x) m';rw[hi];exact hg)
 refine⟨fun e=>⟨q+2-1,g _ ?_⟩,fun e=>g _ ?_⟩
 ·unfold MV.eK;rw[if_neg (fun h=>h e),MV.eX h1];exact aW.refl _
 ·unfold MV.eK;rw[if_pos e,MV.dY h1];exact aW.refl _
def mm(p:ab)(n:Nat)(a k:Int):aV p (n+1) a k=(
  if(ao p a).kind=1 then[iI 2 (ao p a).n]
  else if(ao p a).kind=2 then[iI 3 (ao p a).n]
  else if(ao p a).kind=3 then[⟨4,0,0,(ao p a).name⟩]
  else if(ao p a).kind=4 then[⟨5,nth p.slots a.toNat,nth p.types a.toNat,sE⟩]
  else if(ao p a).kind=5 then aV p n (nth (ao p a).l 0) k++[iI 11 (nth p.slots a.toNat)]
  else if(ao p a).kind=6 then aV p n (nth (ao p a).l 0) k++[iI 10 0]
  else if(ao p a).kind=7 then aV p n (nth (ao p a).l 0) k++[iI 8 0]
  else if(ao p a).kind=8 then aV p n (nth (ao p a).l 0) k++[iI 9 0]
  else if jW (ao p a).name=7 then aV p n (nth (ao p a).l 0) k++aV p n (nth (ao p a).l 1) (k+(aV p n (nth (ao p a).l 0) k).length)++[⟨7,0,0,(ao p a).name⟩]
  else aV p n (nth (ao p a).l 0) k++[iI (jW (ao p a).name) (k+(aV p n (nth (ao p a).l 0) k).length+1+(aV p n (nth (ao p a).l 1) (k+(aV p n (nth (ao p a).l 0) k).length+1)).length)]++aV p n (nth (ao p a).l 1) (k+(aV p n (nth (ao p a).l 0) k).length+1)):=rfl
def re(p:ab)(slots:List ak)(heap:SH)(n:Nat)(a:Int):de p slots heap (n+1) a=(
  let x:=de p slots heap n (nth (ao p a).l 0)
  let y:=de p slots heap n (nth (ao p a).l 1)
  if(ao p a).kind=1 then(vI (ao p a).n,0)
  else if(ao p a).kind=2 then(vB (decide ((ao p a).n=1)),0)
  else if(ao p a).kind=3 then(vT (ao p a).name,0)
  else if(ao p a).kind=4 then(di slots (nth p.slots a.toNat) (nth p.types a.toNat),0)
  else if x.2≠0 then(v0,x.2)
  else if(ao p a).kind=5 then
   (if x.1.n<0\/((gU heap (di slots (nth p.slots a.toNat) 4)).length:Int)<=x.1.n then(v0,2)else(vI (nth (gU heap (di slots (nth p.slots a.toNat) 4)) x.1.n.toNat),0))
  else if(ao p a).kind=9 then
   (if((ao p a).name=(⟨#[124,124]⟩:SK)/\x.1.n=1)\/((ao p a).name=(⟨#[38,38]⟩:SK)/\x.1.n=0)then(x.1,0)
   else if y.2≠0 then(v0,y.2)else jq (ao p a).name x.1 y.1)
  else if(ao p a).kind=6 then(if x.1.ty=3 then(vI x.1.s.size,0)else(vI (gU heap x.1).length,0))
  else if(ao p a).kind=7 then(jX (⟨#[45]⟩:SK) x.1,0)
  else(jX (⟨#[33]⟩:SK) x.1,0)):=rfl
def Aq{v:ak}(h:v.ty=2)(hm:jS v=true):v=vB (decide (v.n=1))/\(v.n=0\/v.n=1):=by unfold jS at hm;rw[jN,if_pos h]at hm;simp only[Bool.and_eq_true,Bool.or_eq_true,decide_eq_true_eq]at hm;obtain⟨h1,h2⟩:=hm;refine⟨?_,h2⟩;obtain⟨t,m,s⟩:=v;simp only at h h1 h2;subst h h1;rcases h2 with rfl|rfl<;>rfl
def FY(slots:List ak)(k t:Int):(di slots k t).ty=t:=by
 unfold di;split
 ·rfl
 split
 ·rename_i h;exact h.2
 ·rfl
def BQ(heap:SH)(v:ak)(h:v.ty=4):gU heap v=MV.bE heap v.n:=by
 unfold gU MV.bE;by_cases e:v.n<1\/(heap.length:Int)<v.n
 ·rw[if_pos e,if_pos (.inr e)]
 ·rw[if_neg e,if_neg (by rintro(h'|h');exact h' h;exact e h')]
theorem Bt{p:ab}{C:aI}{inp:SI}{M:MV}(hs:cY p)(h1:1<=M.calls.length)(h8:M.calls.length<=8)(P':M.status=0){j:Nat}(hj:j<p.aa.aq.length){slots:List ak}(Tr:(slots.length:Int)=nth p.size j) :
  ∀(n:Nat) (a:Int) (k:Nat) (c:MC),0<=a->a.toNat<p.aa.nodes.length->lL p j a->bT (bA p.aa.nodes a)->a.toNat<n->c.slots=slots->c.at_=k->bR C.ins k (aV p n a k)->(∀v∈c.stack,v.s.size<=40)->c.stack.length+a.toNat<=900->
   vp p C inp M c (de p slots M.heap n a) (k+(aV p n a k).length)
 |0,a,k,c,h0,hl,hi,hk,hn,hc,Tf,hC,hz,hd=>by omega
 |n+1,a,k,c,h0,hl,hi,hk,hn,hc,Tf,hC,hz,hd=>by
  have told:=rX hs.ok slots M.heap (n+1) a h0 jB hn hk;have sh:=(hs.ok.aa.shape a.toNat hl).1;have ty:=hs.ok.ty a.toNat (Nat.zero_le _) hl;have SW:bT (ao p a).kind:=hk;unfold bT at SW;have Wk:iH (ao p a).kind->0<=nth p.slots a.toNat/\nth p.slots a.toNat<c.slots.length:=fun h=>by have:=(hs.aq j hj).all a.toNat hi.1 (by have:=hi.2;omega) h;rw[hc];omega
  have ok0:∀(x:av),bR C.ins k [x]->x.op=2\/x.op=3\/x.op=4\/(x.op=5/\0<=x.a/\x.a<c.slots.length)->(M.aS c).cX p C:=fun x hx ho=> cX.pQ h1 h8 Tf hx.head.1 hx.head.2.1 (fun h=>jB) (fun h=>jB) (fun h=>jB) (fun h=>jB) (fun h=>jB) (fun h=>jB) jB (fun h=>jB) hz jB
  have okU:∀(k':Nat) (x:av) (u:ak) (q:Nat),bR C.ins k' [x]->u.s.size<=40->x.op=8\/x.op=9\/(x.op=10/\(u.ty=3\/u.ty=4))\/(x.op=11/\0<=x.a/\x.a<c.slots.length)\/((x.op=18\/x.op=19)/\(u.n=0\/u.n=1))->(M.aS { c with at_:=(k':Int),stack:=c.stack++[u],bw:=q }).cX p C:=fun k' x u q hx hu ho=> cX.pQ h1 h8 rfl hx.head.1 hx.head.2.1 (fun _=>jE) (fun h=>jB) (fun h=>by show 0<=x.a/\x.a<c.slots.length;omega) (fun h=>by rw[MV.cJ];omega) (fun h=>by rw[MV.cJ];omega) (fun h=>jB) jB (fun h=>jB) (xy hz hu) jF
  -- what is below it
  have sub:∀b∈(ao p a).l,bT (bA p.aa.nodes b)->∀(k':Nat) (c':MC),c'.slots=slots->c'.at_=k'->bR C.ins k' (aV p n b k')->(∀v∈c'.stack,v.s.size<=40)->c'.stack.length<=c.stack.length+1->vp p C inp M c' (de p slots M.heap n b) (k'+(aV p n b k').length)/\@Told (de p slots M.heap n b) (nth p.types b.toNat):=fun b hb hbE k' c' g1 g2 g3 g4 g5=>by obtain⟨b1,b2,b3,b4⟩:=hi.aE hs hj hb;exact⟨Bt hs h1 h8 P' hj Tr n b k' c' b2 b4 b1 hbE jB g1 g2 g3 g4 jB,rX hs.ok slots M.heap n b b2 jB jB hbE⟩
  have TG:(ao p a).kind=1\/(ao p a).kind=2\/(ao p a).kind=3\/(ao p a).kind=4\/(ao p a).kind=5\/(ao p a).kind=6\/(ao p a).kind=7\/(ao p a).kind=8\/(ao p a).kind=9:=jB;rcases TG with e|e|e|e|e|e|e|e|e
  ·rw[mm]at hC ⊢;rw[re];simp only[e,Int.reduceEq,↓reduceIte]at hC ⊢;exact zq h1 h8 P' Tf hC (fun h=>by cases h) (ok0 _ hC (.inl rfl)) (by rw[MV.sj,MV.eX h1])
  ·rw[mm]at hC ⊢;rw[re];simp only[e,Int.reduceEq,↓reduceIte]at hC ⊢;exact zq h1 h8 P' Tf hC (fun h=>by cases h) (ok0 _ hC (.inr (.inl rfl))) (by rw[MV.pG,MV.eX h1])
  ·rw[mm]at hC ⊢;rw[re];simp only[e,Int.reduceEq,↓reduceIte]at hC ⊢;exact zq h1 h8 P' Tf hC (fun h=>by cases h) (ok0 _ hC (.inr (.inr (.inl rfl)))) (by rw[MV.pC,MV.eX h1])
  ·have hs4:=Wk (.inl e);rw[mm]at hC ⊢;rw[re];simp only[e,Int.reduceEq,↓reduceIte]at hC ⊢;exact zq h1 h8 P' Tf hC (fun h=>by cases h) (ok0 _ hC (.inr (.inr (.inr ⟨rfl,hs4⟩)))) (by rw[MV.pM,MV.eX h1,MV.bc h1,hc])
  ·obtain⟨x,B',Tu⟩:=sh.one (.inl e);have B':(ao p a).l=[x]:=B';have SZ:nth (ao p a).l 0=x:=by rw[B'];rfl
   have hs5:=Wk (.inr (.inl e));rw[re]at told ⊢;rw[mm]at hC ⊢;simp only[e,SZ,Int.reduceEq,↓reduceIte]at hC told ⊢;obtain⟨d,tx⟩:=sub x (by rw[B'];simp) Tu k c hc Tf hC.last.1 hz jB;have SY:=tx.size;refine u7 (k2:=k+(aV p n x k++[iI 11 (nth p.slots a.toNat)]).length) d (fun h=>by rw[if_pos h]) fun hx q=>?_
   rw[if_neg (fun h=>h hx)];have TA:=hC.app.2;have hok:=okU _ _ (de p slots M.heap n x).1 q TA SY (.inr (.inr (.inr (.inl ⟨rfl,hs5⟩))));generalize de p slots M.heap n x=X at*;rw[List.length_append,List.length_singleton,Int.natCast_add,show((k:Int)+(((aV p n x k).length:Int)+((1:Nat):Int)))=((k+(aV p n x k).length:Nat):Int)+1 by push_cast;omega,BQ _ _ (FY _ _ _)];refine yD h1 h8 P' TA (fun h=>by cases h) hok ?_;rw[MV.oH,MV.bc h1,MV.cJ,MV.dc h1,MV.fw,MV.iy,hc];by_cases hE:X.1.n<0\/((MV.bE M.heap (di slots (nth p.slots a.toNat) 4).n).length:Int)<=X.1.n
   ·rw[if_pos hE,if_pos hE];rfl
   ·rw[if_neg hE,if_neg hE];rfl
  ·obtain⟨x,B',Tu⟩:=sh.one (by have e:(nth p.aa.nodes a.toNat).kind=6:=e;omega);have B':(ao p a).l=[x]:=B';have SZ:nth (ao p a).l 0=x:=by rw[B'];rfl
   rw[re]at told ⊢;rw[mm]at hC ⊢;simp only[e,SZ,Int.reduceEq,↓reduceIte]at hC told ⊢;obtain⟨d,tx⟩:=sub x (by rw[B'];simp) Tu k c hc Tf hC.last.1 hz jB;have SY:=tx.size;refine u7 (k2:=k+(aV p n x k++[iI 10 0]).length) d (fun h=>by rw[if_pos h]) fun hx q=>?_
   rw[if_neg (fun h=>h hx)];have TA:=hC.app.2;obtain⟨tx1,tx2⟩:=qY tx hx;have Uc:(de p slots M.heap n x).1.ty=3\/(de p slots M.heap n x).1.ty=4:=by have:=(ty.len e).2;have W8:nth (nth p.aa.nodes a.toNat).l 0=x:=SZ;rw[W8]at this;omega
   have hok:=okU _ _ (de p slots M.heap n x).1 q TA SY (.inr (.inr (.inl ⟨rfl,Uc⟩)));generalize de p slots M.heap n x=X at*;rw[List.length_append,List.length_singleton,Int.natCast_add,show((k:Int)+(((aV p n x k).length:Int)+((1:Nat):Int)))=((k+(aV p n x k).length:Nat):Int)+1 by push_cast;omega];refine yD h1 h8 P' TA (fun h=>by cases h) hok ?_;rw[MV.se,MV.bc h1,MV.cJ,MV.dc h1,MV.fw];rw[MV.iy];by_cases hE:X.1.ty=3
   ·rw[if_pos hE,jN];rfl
   ·have h4:X.1.ty=4:=jB;rw[if_neg hE,if_pos h4,BQ _ _ h4];rfl
  ·obtain⟨x,B',Tu⟩:=sh.one (by have e:(nth p.aa.nodes a.toNat).kind=7:=e;omega);have B':(ao p a).l=[x]:=B';have SZ:nth (ao p a).l 0=x:=by rw[B'];rfl
   rw[re]at told ⊢;rw[mm]at hC ⊢;simp only[e,SZ,Int.reduceEq,↓reduceIte]at hC told ⊢;obtain⟨d,tx⟩:=sub x (by rw[B'];simp) Tu k c hc Tf hC.last.1 hz jB;have SY:=tx.size;refine u7 (k2:=k+(aV p n x k++[iI 8 0]).length) d (fun h=>by rw[if_pos h]) fun hx q=>?_
   rw[if_neg (fun h=>h hx)];have TA:=hC.app.2;have hok:=okU _ _ (de p slots M.heap n x).1 q TA SY (.inl rfl);generalize de p slots M.heap n x=X at*;rw[List.length_append,List.length_singleton,Int.natCast_add,show((k:Int)+(((aV p n x k).length:Int)+((1:Nat):Int)))=((k+(aV p n x k).length:Nat):Int)+1 by push_cast;omega];refine yD h1 h8 P' TA (fun h=>by cases h) hok ?_;rw[MV.rW,MV.bc h1,MV.cJ,MV.dc h1,MV.fw];rfl
  ·obtain⟨x,B',Tu⟩:=sh.one (by have e:(nth p.aa.nodes a.toNat).kind=8:=e;omega);have B':(ao p a).l=[x]:=B';have SZ:nth (ao p a).l 0=x:=by rw[B'];rfl
   rw[re]at told ⊢;rw[mm]at hC ⊢;simp only[e,SZ,Int.reduceEq,↓reduceIte]at hC told ⊢;obtain⟨d,tx⟩:=sub x (by rw[B'];simp) Tu k c hc Tf hC.last.1 hz jB;have SY:=tx.size;refine u7 (k2:=k+(aV p n x k++[iI 9 0]).length) d (fun h=>by rw[if_pos h]) fun hx q=>?_
   rw[if_neg (fun h=>h hx)];have TA:=hC.app.2;have hok:=okU _ _ (de p slots M.heap n x).1 q TA SY (.inr (.inl rfl));generalize de p slots M.heap n x=X at*;rw[List.length_append,List.length_singleton,Int.natCast_add,show((k:Int)+(((aV p n x k).length:Int)+((1:Nat):Int)))=((k+(aV p n x k).length:Nat):Int)+1 by push_cast;omega];refine yD h1 h8 P' TA (fun h=>by cases h) hok ?_;rw[MV.sa,MV.bc h1,MV.cJ,MV.dc h1,MV.fw];rfl
  ·obtain⟨x,y,B',Tu,Wx⟩:=sh.two (.inl e);have B':(ao p a).l=[x,y]:=B';have SZ:nth (ao p a).l 0=x:=by rw[B'];rfl
   have UX:nth (ao p a).l 1=y:=by rw[B'];rfl
   have hsg:(ao p a).name∈uj:=sh.sign e;have tb:=ty.zf e;have tb:nth p.types a.toNat=im (ao p a).name (nth p.types (nth (ao p a).l 0).toNat) (nth p.types (nth (ao p a).l 1).toNat)/\nth p.types a.toNat≠0:=tb;rw[SZ,UX]at tb;rw[re]at told ⊢;rw[mm]at hC ⊢;simp only[e,SZ,UX,Int.reduceEq,↓reduceIte]at hC told ⊢;by_cases UZ:jW (ao p a).name=7
   ·rw[if_pos UZ]at hC ⊢;have TH:(ao p a).name≠(⟨#[38,38]⟩:SK):=fun h=>by unfold jW at UZ;rw[if_pos h]at UZ;cases UZ
    have U0:(ao p a).name≠(⟨#[124,124]⟩:SK):=fun h=>by unfold jW at UZ;rw[if_neg TH,if_pos h]at UZ;cases UZ
    obtain⟨d,tx⟩:=sub x (by rw[B'];simp) Tu k c hc Tf hC.last.1.app.1 hz jB;have SY:=tx.size;refine u7 d (fun h=>by rw[if_pos h]) fun hx q=>?_
    rw[if_neg (fun h=>h hx),if_neg (fun h=>h.elim (fun h=>U0 h.1) (fun h=>TH h.1))];have hCy:=hC.last.1.app.2;obtain⟨dy,tty⟩:=sub y (by rw[B'];simp) Wx (k+(aV p n x k).length) { c with at_:=((k+(aV p n x k).length:Nat):Int),stack:=c.stack++[(de p slots M.heap n x).1],bw:=q } hc rfl (by rw[Int.natCast_add];exact hCy) (xy hz SY) jE;have hsy:=tty.size;have TA:=hC.app.2;have YA:Told (jq (ao p a).name (de p slots M.heap n x).1 (de p slots M.heap n y).1) (nth p.types a.toNat)\/(de p slots M.heap n y).2≠0:=by
     by_cases hy:(de p slots M.heap n y).2=0
     ·rw[if_neg (fun h=>h hx),if_neg (fun h=>h.elim (fun h=>U0 h.1) (fun h=>TH h.1)),if_neg (fun h=>h hy)]at told;exact .inl told
     ·exact .inr hy
    rw[Int.natCast_add]at dy;rw[List.length_append,List.length_append,List.length_singleton,show((k:Int)+(((aV p n x k).length+(aV p n y (k+(aV p n x k).length)).length+1:Nat):Int))=((k+(aV p n x k++aV p n y (k+(aV p n x k).length)).length:Nat):Int)+1 by rw[List.length_append];push_cast;omega];generalize hX:de p slots M.heap n x=X at*;generalize hY:de p slots M.heap n y=Y at*;rw[show((k:Int)+(aV p n x k).length+(aV p n y (k+(aV p n x k).length)).length)=((k+(aV p n x k++aV p n y (k+(aV p n x k).length)).length:Nat):Int) by rw[List.length_append];push_cast;omega]at dy;by_cases hy:Y.2=0
    ·rw[if_neg (fun h=>h hy)];obtain⟨q2,g⟩:=dy.1 hy;have ht:=KO (p:=p) (C:=C) (inp:=inp) (M:=M) (c:=c) (u:=X.1) (w:=Y.1) (r:=jq (ao p a).name X.1 Y.1) (q:=q2) h1 h8 P' TA (fun h=>by cases h)
      (cX.pQ h1 h8 rfl TA.head.1 TA.head.2.1 (fun _=>jE) (fun _=>jE) (fun h=>by rcases h with h|h|h|h<;>cases h) (fun h=>by rcases h with h|h|h<;>cases h) (fun h=>by cases h) (fun h=>by cases h) ⟨by show(1:Int)<=7;decide,by show(7:Int)<=23;decide⟩ (fun h=>by cases h) (xy (xy hz SY) hsy) jF)
      (by rw[MV.q9,MV.bc h1,MV.cJ,MV.fw c Y.1 (c.stack++[X.1]),MV.cJ,MV.dc h1,MV.oA])
     exact⟨fun h=>by obtain⟨q',g'⟩:=ht.1 h;exact⟨q',g.trans g'⟩,fun h=>g.trans (ht.2 h)⟩
    ·rw[if_pos hy];exact⟨fun h=>(hy h).elim,fun h=>dy.2 h⟩
   ·rw[if_neg UZ]at hC ⊢;have Tm:((ao p a).name=(⟨#[38,38]⟩:SK)/\jW (ao p a).name=18)\/((ao p a).name=(⟨#[124,124]⟩:SK)/\(ao p a).name≠(⟨#[38,38]⟩:SK)/\jW (ao p a).name=19):=by
     unfold jW at UZ ⊢;by_cases TH:(ao p a).name=(⟨#[38,38]⟩:SK)
     ·exact .inl ⟨TH,by rw[if_pos TH]⟩
     rw[if_neg TH]at UZ ⊢;by_cases U0:(ao p a).name=(⟨#[124,124]⟩:SK)
     ·exact .inr ⟨U0,TH,by rw[if_pos U0]⟩
     ·rw[if_neg U0]at UZ;exact(UZ rfl).elim
    obtain⟨d,tx⟩:=sub x (by rw[B'];simp) Tu k c hc Tf hC.app.1.last.1 hz jB;have SY:=tx.size;have htw:nth p.types x.toNat=2/\nth p.types y.toNat=2:=by
     have t1:=tb.1;have t2:=tb.2;rw[t1]at t2;unfold im at t2;by_cases h:nth p.types x.toNat=nth p.types y.toNat
     ·rw[if_neg (fun h'=>h' h),if_pos (by rcases Tm with h|h;exact .inr h.1;exact .inl h.1)]at t2;by_cases h2:nth p.types x.toNat=2
      ·exact⟨h2,jB⟩
      ·rw[if_neg h2]at t2;exact(t2 rfl).elim
     ·rw[if_pos h]at t2;exact(t2 rfl).elim
    rw[htw.1]at tx;refine u7 d (fun h=>by rw[if_pos h]) fun hx q=>?_
    rw[if_neg (fun h=>h hx)];obtain⟨x1,x2⟩:=qY tx hx;obtain⟨xb,xn⟩:=Aq x1 x2;have hlI:=hC.app.1.app.2;have hCy:=hC.app.2;rw[List.length_append,List.length_singleton,<-Nat.add_assoc]at hCy;obtain⟨dy,tty⟩:=sub y (by rw[B'];simp) Wx (k+(aV p n x k).length+1) { c with at_:=((k+(aV p n x k).length:Nat):Int)+1,stack:=c.stack,bw:=q+1 } hc (by show((k+(aV p n x k).length:Nat):Int)+1=_;omega) (by rw[Int.natCast_add,Int.natCast_add];exact hCy) hz jE;rw[htw.2]at tty;have hT:((k:Int)+((aV p n x k++[iI (jW (ao p a).name) ((k:Int)+(aV p n x k).length+1+(aV p n y ((k:Int)+(aV p n x k).length+1)).length)]++aV p n y ((k:Int)+(aV p n x k).length+1)).length:Int))=(k:Int)+(aV p n x k).length+1+(aV p n y ((k:Int)+(aV p n x k).length+1)).length:=by rw[List.length_append,List.length_append,List.length_singleton];push_cast;omega
    rw[hT];have hok:=fun h=>okU _ _ (de p slots M.heap n x).1 q hlI SY (.inr (.inr (.inr (.inr ⟨h,xn⟩))))
    have gI:∀m',aW p C inp ((M.aS { c with at_:=((k+(aV p n x k).length:Nat):Int)+1,stack:=c.stack++[(de p slots M.heap n x).1],bw:=q }).ins p C inp (iI (jW (ao p a).name) ((k:Int)+(aV p n x k).length+1+(aV p n y ((k:Int)+(aV p n x k).length+1)).length))) m'->aW p C inp (M.aS { c with at_:=((k+(aV p n x k).length:Nat):Int),stack:=c.stack++[(de p slots M.heap n x).1],bw:=q }) m':=fun m' hg=> aW.ins (c:={ c with at_:=((k+(aV p n x k).length:Nat):Int),stack:=c.stack++[(de p slots M.heap n x).1],bw:=q }) h1 h8 P' rfl hlI.head.1 hlI.head.2.1 (fun h=>by have h:jW (ao p a).name=1:=h;omega) (hok (by show jW _=18\/jW _=19;omega)) hg
    rw[Int.natCast_add]at gI;rw[show(((k+(aV p n x k).length+1:Nat):Int))=(k:Int)+(aV p n x k).length+1 by push_cast;omega]at dy;rw[Int.natCast_add]at dy;generalize TE:((k:Int)+(aV p n x k).length+1+(aV p n y ((k:Int)+(aV p n x k).length+1)).length)=T at*;generalize hX:de p slots M.heap n x=X at*;generalize hY:de p slots M.heap n y=Y at*;have hy2:∀(Tb:(ao p a).name=(⟨#[124,124]⟩:SK)/\X.1.n=0\/(ao p a).name=(⟨#[38,38]⟩:SK)/\X.1.n=1),Y.2=0->jq (ao p a).name X.1 Y.1=(Y.1,0):=fun Tb hy=>by
     obtain⟨y1,y2⟩:=qY tty hy;obtain⟨yb,yn⟩:=Aq y1 y2;unfold jq;rw[jN];rcases Tb with⟨h,hn⟩|⟨h,hn⟩
     ·rw[h,if_neg jC,if_neg jC,jN,if_pos x1,if_pos rfl,decide_eq_false (by omega:¬X.1.n=1),Bool.false_or,<-yb]
     ·rw[h,if_neg jC,if_neg jC,jN,if_pos x1,if_neg jC,if_pos rfl,decide_eq_true hn,Bool.true_and,<-yb]
    -- one goes on at the other side
    have go:∀(Tb:(ao p a).name=(⟨#[124,124]⟩:SK)/\X.1.n=0\/(ao p a).name=(⟨#[38,38]⟩:SK)/\X.1.n=1),(M.aS { c with at_:=(k:Int)+(aV p n x k).length+1,stack:=c.stack++[X.1],bw:=q }).ins p C inp (iI (jW (ao p a).name) T)=M.aS { c with at_:=(k:Int)+(aV p n x k).length+1,stack:=c.stack,bw:=q+1 }->
      ((if Y.2≠0 then(v0,Y.2)else jq (ao p a).name X.1 Y.1).2=0->∃q',aW p C inp (M.aS { c with at_:=(k:Int)+(aV p n x k).length,stack:=c.stack++[X.1],bw:=q }) (M.aS { c with at_:=T,stack:=c.stack++[(if Y.2≠0 then(v0,Y.2)else jq (ao p a).name X.1 Y.1).1],bw:=q' }))/\((if Y.2≠0 then(v0,Y.2)else jq (ao p a).name X.1 Y.1).2≠0->aW p C inp (M.aS { c with at_:=(k:Int)+(aV p n x k).length,stack:=c.stack++[X.1],bw:=q }) (M.fU c 3 (if Y.2≠0 then(v0,Y.2)else jq (ao p a).name X.1 Y.1).2)):=fun Tb hi=>by
     by_cases hy:Y.2=0
     ·rw[if_neg (fun h=>h hy),hy2 Tb hy];obtain⟨q2,g⟩:=dy.1 hy;exact⟨fun _=>⟨q2,gI _ (by rw[hi];exact g)⟩,fun h=>(h rfl).elim⟩
     ·rw[if_pos hy];exact⟨fun h=>(hy h).elim,fun _=>gI _ (by rw[hi];exact dy.2 hy)⟩
    rcases Tm with⟨h,h18⟩|⟨h,Tb,h19⟩
    ·rcases xn with hn|hn
     ·rw[if_pos (.inr ⟨h,hn⟩)];refine⟨fun _=>⟨q,gI _ ?_⟩,fun h=>(h rfl).elim⟩;rw[h18,MV.n6,MV.bc h1,MV.cJ,jN,MV.dm];exact aW.refl _
     ·rw[if_neg (fun e=>e.elim (fun e=>by rw[h]at e;exact absurd e.1 jC) (fun e=>jB))];exact go (.inr ⟨h,hn⟩) (by rw[h18,MV.n6,MV.bc h1,MV.cJ,if_pos hn,MV.dc h1,MV.fw])
    ·rcases xn with hn|hn
     ·rw[if_neg (fun e=>e.elim (fun e=>jB) (fun e=>Tb e.1))];exact go (.inl ⟨h,hn⟩) (by rw[h19,MV.qq,MV.bc h1,MV.cJ,jN,MV.dc h1,MV.fw])
     ·rw[if_pos (.inl ⟨h,hn⟩)];refine⟨fun _=>⟨q,gI _ ?_⟩,fun h=>(h rfl).elim⟩;rw[h19,MV.qq,MV.bc h1,MV.cJ,if_pos hn,MV.dm];exact aW.refl _
structure Fx(I:Nat->Prop)(c c':Ck):Prop where
 aa:c'.aa=c.aa
 fn:c'.fn=c.fn
 at_:∀k,nth c'.aq k=nth c.aq k\/(I k/\nth c'.aq k=c.fn)
def Fx.refl(I:Nat->Prop)(c:Ck):Fx I c c:=⟨rfl,rfl,fun _=>.inl rfl⟩
theorem Fx.trans{I:Nat->Prop}{a b c:Ck}(h:Fx I a b)(k:Fx I b c):Fx I a c:=⟨k.aa.trans h.aa,k.fn.trans h.fn,fun i=>by
 rcases k.at_ i with e|⟨e1,e2⟩
 ·rw[e];exact h.at_ i
 ·exact .inr ⟨e1,e2.trans h.fn⟩⟩
variable{I:Nat->Prop}{c':Ck}
def uF{c:Ck}(h0:c'.aa=c.aa)(h1:c'.fn=c.fn)(h2:c'.aq=c.aq):Fx I c c':=⟨h0,h1,fun k=>.inl (by rw[h2])⟩
def sG(I:Nat->Prop)(c:Ck)(e a:Int):Fx I c (c.aG e a):=by unfold Ck.aG;split<;>exact uF rfl rfl rfl
def qH(I:Nat->Prop)(c:Ck)(b:Bool)(a:Int):Fx I c (c.ar b a):=by unfold Ck.ar;split;exact .refl _ _;exact sG _ _ _ _
def u0(I:Nat->Prop)(c:Ck)(a:Int):Fx I c (c.named a).1:=by unfold Ck.named;split;exact sG _ _ _ _;exact uF rfl rfl rfl
def AD(c:Ck)(h:I a.toNat):Fx I c (c.af a):=⟨rfl,rfl,fun k=>by
 show nth (c.aq.set a.toNat c.fn) k=_\/_;rw[pz];split
 ·rename_i e;exact .inr ⟨e.1 ▸ h,by show nth (c.aq.set a.toNat c.fn) k=_;rw[pz,if_pos e]⟩
 ·exact .inl rfl⟩
def OF(c:Ck)(t:Int)(h:I a.toNat):Fx I c (c.note a t):=⟨rfl,rfl,(AD c h).at_⟩
def yZ{c x y:Ck}{q:Prop}[Decidable q](h:Fx I c x)(k:Fx I c y):Fx I c (if q then x else y):=by split;exact h;exact k
def Cl(t:aF)(I:Nat->Prop):Prop:=∀k,I k->k<t.nodes.length/\∀a∈(nth t.nodes k).l,I a.toNat
def Gy(t:aF)(I:Nat->Prop)(ex:Ck->Int->Ck×Int):Prop:=∀c a,c.aa=t->I a.toNat->eF (bA t.nodes a)->Fx I c (ex c a).1
theorem FD{t:aF}{I:Nat->Prop}{ex:Ck->Int->Ck×Int}(hx:Gy t I ex):∀(L:SI) (c:Ck) (ts:SI),c.aa=t->(∀a∈L,I a.toNat/\eF (bA t.nodes a))->Fx I c (fV ex c L ts).1
 |[],c,ts,hc,hL=>by unfold fV;exact .refl _ c
 |a::L,c,ts,hc,hL=>by
  unfold fV;split
  ·have h1:=hx c a hc (hL a jE).1 (hL a jE).2;exact h1.trans (FD hx L _ _ (h1.aa.trans hc) fun b hb=>hL b (by simp[hb]))
  ·exact .refl _ c
theorem Jg(I:Nat->Prop)(a:Int):∀(ts:SI) (ps:List bQ) (c:Ck),Fx I c (gY a c ts ps)
 |[],ps,c=>by rw[sR];exact .refl _ c
 |_::_,[],c=>by rw[sN];exact .refl _ c
 |x::ts,p::ps,c=>by
  unfold gY;split
  ·exact(qH _ _ _ _).trans (Jg I a ts ps _)
  ·exact .refl _ c
theorem C7{t:aF}(ht:aL t){I:Nat->Prop}(hI:Cl t I):∀n,Gy t I (au n)
 |0=>fun c a hc ha hr=>by unfold au;exact .refl _ c
 |n+1=>fun c a hc ha hr=>by
  have hx:=C7 ht hI n;unfold au;split
  ·exact .refl _ c
  refine Fx.trans (b:=(cn (au n) c a).1) ?_ (OF _ _ ha);obtain⟨WI,WJ⟩:=hI _ ha;have sh:=(ht.shape a.toNat WI).1;have u':c.node a=nth t.nodes a.toNat:=by unfold Ck.node;rw[hc]
  have kd:∀i,c.aE a i=nth (nth t.nodes a.toNat).l i:=fun i=>by unfold Ck.aE;rw[u']
  have Vj:eF (nth t.nodes a.toNat).kind:=hr;unfold eF bT at Vj;have one:∀x,(nth t.nodes a.toNat).l=[x]->bT (bA t.nodes x)->∀c',c'.aa=t->Fx I c' (au n c' (c.aE a 0)).1:=fun x hl S4 c' TD=>by
   have S3:c.aE a 0=x:=by rw[kd,hl];rfl
   rw[S3];exact hx c' x TD (WJ x (by rw[hl];simp)) (.inl S4)
  unfold cn;simp only;rw[u'];split
  ·exact .refl _ c
  split
  ·exact .refl _ c
  split
  ·exact .refl _ c
  split
  ·exact u0 _ _ _
  split
  ·rename_i k;have Tn:=sh.call k;unfold gM;split
   ·exact sG _ _ _ _
   ·simp only;refine((FD hx _ c _ hc fun b hb=>?_).trans (yZ (sG _ _ _ _) (.refl _ _))).trans (Jg _ _ _ _ _);rw[u']at hb;exact⟨WJ b hb,.inl (Tn b hb)⟩
  split
  ·obtain⟨x,hl,S4⟩:=sh.one jB;exact((u0 I c a).trans (one x hl S4 _ ((u0 I c a).aa.trans hc))).trans (qH _ _ _ _)
  split
  ·obtain⟨x,y,hl,S4,Vq⟩:=sh.two jB;have S3:c.aE a 0=x:=by rw[kd,hl];rfl
   have Te:c.aE a 1=y:=by rw[kd,hl];rfl
   rw[S3,Te];have h1:=hx c x hc (WJ x (by rw[hl];simp)) (.inl S4);exact(h1.trans (hx _ y (h1.aa.trans hc) (WJ y (by rw[hl];simp)) (.inl Vq))).trans (qH _ _ _ _)
  ·obtain⟨x,hl,S4⟩:=sh.one jB
   (repeat' split)<;>exact(one x hl S4 c hc).trans (qH _ _ _ _)
theorem ws{t:aF}{I:Nat->Prop}{st:Ck->Int->Ck}{C:Int->Prop}(hs:∀c a,c.aa=t->I a.toNat->C (bA t.nodes a)->Fx I c (st c a)):∀(L:SI) (c:Ck),c.aa=t->(∀a∈L,I a.toNat/\C (bA t.nodes a))->Fx I c (dt st c L)
 |[],c,hc,hL=>by unfold dt;exact .refl _ c
 |a::L,c,hc,hL=>by
  unfold dt;split
  ·have h1:=hs c a hc (hL a jE).1 (hL a jE).2;exact h1.trans (ws hs L _ (h1.aa.trans hc) fun b hb=>hL b (by simp[hb]))
  ·exact .refl _ c
variable{t:aF}
def Be(ht:aL t)(hI:Cl t I){st:Ck->Int->Ck}(hs:∀c a,c.aa=t->I a.toNat->eo (bA t.nodes a)->Fx I c (st c a))(c:Ck)(a:Int)(hc:c.aa=t)(ha:I a.toNat)(hk:bA t.nodes a=18):Fx I c (eL st c a):=by
 obtain⟨WI,WJ⟩:=hI _ ha;have hb:=(ht.shape a.toNat WI).1.block hk;have u':c.node a=nth t.nodes a.toNat:=by unfold Ck.node;rw[hc]
 unfold eL;simp only;refine((AD c ha).trans (ws (C:=eo) hs _ _ hc fun b Ul=>?_)).trans (uF rfl rfl rfl);rw[u']at Ul;exact⟨WJ b Ul,hb b Ul⟩
def Ko{t:aF}{ex:Ck->Int->Ck×Int}(c:Ck)(a:Int)(hx:Fx I c (ex c (c.aE a 0)).1):Fx I c (o0 ex c a):=by have hA:Fx I c (gC ex c a):=hx.trans (qH _ _ _ _);have hB:Fx I (gC ex c a) (jf ex c a):=yZ (sG _ _ _ _) (.refl _ _);have hC:Fx I (jf ex c a) (dP ex c a):=yZ (sG _ _ _ _) (.refl _ _);rw[tJ];exact((hA.trans hB).trans hC).trans (uF rfl rfl rfl)
variable{n:Nat}
def E4(ht:aL t)(hI:Cl t I)(ih:∀(c:Ck) (a:Int),c.aa=t->I a.toNat->eo (bA t.nodes a)->Fx I c (bH n c a))(c:Ck)(a:Int)(hc:c.aa=t)(ha:I a.toNat)(hr:eo (bA t.nodes a)):Fx I (c.af a) (bH (n+1) c a):=by
 have hx:=C7 ht hI n;obtain⟨WI,WJ⟩:=hI _ ha;have sh:=(ht.shape a.toNat WI).1;have u':(c.af a).node a=nth t.nodes a.toNat:=by unfold Ck.node;show nth c.aa.nodes _=_;rw[hc]
 have TD:(c.af a).aa=t:=hc;have kd:∀i,(c.af a).aE a i=nth (nth t.nodes a.toNat).l i:=fun i=>by unfold Ck.aE;rw[u']
 have Vj:eo (nth t.nodes a.toNat).kind:=hr;unfold eo at Vj;have one:∀x,(nth t.nodes a.toNat).l=[x]->eF (bA t.nodes x)->∀c',c'.aa=t->Fx I c' (au n c' ((c.af a).aE a 0)).1:=fun x hl S4 d hd=>by
  have S3:(c.af a).aE a 0=x:=by rw[kd,hl];rfl
  rw[S3];exact hx d x hd (WJ x (by rw[hl];simp)) S4
 unfold bH;simp only;rw[u'];split
 ·obtain⟨x,hl,S4⟩:=sh.right jB;exact Ko (t:=t) _ _ (one x hl S4 _ TD)
 split
 ·obtain⟨x,hl,S4⟩:=sh.right jB;exact((u0 I _ a).trans (one x hl S4 _ ((u0 I _ a).aa.trans TD))).trans (qH _ _ _ _)
 split
 ·obtain⟨x,y,hl,S4,Vq⟩:=sh.two jB;have S3:(c.af a).aE a 0=x:=by rw[kd,hl];rfl
  have Te:(c.af a).aE a 1=y:=by rw[kd,hl];rfl
  rw[S3,Te];have h0:=u0 I (c.af a) a;have h1:=h0.trans (hx _ x (h0.aa.trans TD) (WJ x (by rw[hl];simp)) (.inl S4));exact(h1.trans (hx _ y (h1.aa.trans TD) (WJ y (by rw[hl];simp)) (.inl Vq))).trans (qH _ _ _ _)
 split
 ·obtain⟨x,hl,XU⟩:=sh.nN jB;exact one x hl (by rw[XU];unfold eF;omega) _ TD
 split
 ·obtain⟨x,hl,S4⟩:=sh.one jB;exact(one x hl (.inl S4) _ TD).trans (qH _ _ _ _)
 split
 ·unfold ki;simp only;rw[u'];split
  ·exact sG _ _ _ _
  split
  ·rename_i e1;rcases sh.ret jB with hl|⟨x,hl,S4⟩
   ·rw[hl]at e1;cases e1
   ·exact(one x hl (.inl S4) _ TD).trans (qH _ _ _ _)
  ·exact .refl _ _
 ·have UY:∃x L,(nth t.nodes a.toNat).l=x::L/\bT (bA t.nodes x)/\∀y∈L,bA t.nodes y=18:=by
   rcases(show(nth t.nodes a.toNat).kind=15\/(nth t.nodes a.toNat).kind=16 from jB)with k|k
   ·obtain⟨x,y,hx,hy,hl|⟨z,hl,hz⟩⟩:=sh.kI k
    ·exact⟨x,[y],hl,hx,fun u hu=>by rw[List.mem_singleton.1 hu];exact hy⟩
    ·exact⟨x,[y,z],hl,hx,fun u hu=>by
      rcases List.mem_cons.1 hu with rfl|hu
      ·exact hy
      ·rw[List.mem_singleton.1 hu];exact hz⟩
   ·obtain⟨x,y,hl,hx,hy⟩:=sh.dS k;exact⟨x,[y],hl,hx,fun u hu=>by rw[List.mem_singleton.1 hu];exact hy⟩
  obtain⟨x,L,hl,S4,hL⟩:=UY;have S3:(c.af a).aE a 0=x:=by rw[kd,hl];rfl
  rw[S3,hl];have h1:=(hx (c.af a) x TD (WJ x (by rw[hl];simp)) (.inl S4)).trans (qH _ _ (decide ((au n (c.af a) x).2=2)) a);refine h1.trans (ws (C:=fun k=>k=18) (fun d b hd hb hk=>Be ht hI ih d b hd hb hk) _ _ (h1.aa.trans TD) fun b hb=>?_);have hb:b∈L:=hb;exact⟨WJ b (by rw[hl];simp[hb]),hL b hb⟩
theorem vg{t:aF}(ht:aL t){I:Nat->Prop}(hI:Cl t I):∀(n:Nat) (c:Ck) (a:Int),c.aa=t->I a.toNat->eo (bA t.nodes a)->Fx I c (bH n c a)
 |0,c,a,hc,ha,hr=>by unfold bH;exact .refl _ c
 |n+1,c,a,hc,ha,hr=>(AD c ha).trans (E4 ht hI (vg ht hI n) c a hc ha hr)
variable{lo hi:Nat}
def vR(ht:aL t){L:SI}(h:aJ t.nodes lo L hi)(hl:hi<=t.nodes.length):Cl t fun k=>lo<=k/\k<hi:=fun k ⟨h1,h2⟩=>⟨jB,fun a ha=>by have:=h.closed k h1 h2 a ha;have:=((ht.shape k jB).2.1 a ha).2;omega⟩
theorem F0(I:Nat->Prop)(body:Int):∀(ps:List bQ) (c:Ck) (i:Int),Fx I c (eJ body c ps i)
 |[],c,i=>by unfold eJ;exact .refl _ c
 |p::ps,c,i=>by unfold eJ;simp only;have h1:Fx I c (if 0<=c.find p.name then c.aG 41 body else c):=yZ (sG I c 41 body) (.refl _ c);generalize (if 0<=c.find p.name then c.aG 41 body else c)=d at*;refine h1.trans ?_;exact Fx.trans (b:={ d with vars:=d.vars++[⟨p.name,p.ty,i⟩],more:=d.more.drop 1,size:=d.size+1 }) (uF rfl rfl rfl) (F0 I body ps _ _)
def Rg(ht:aL t){c:Ck}(hc:c.aa=t)(hk:k<t.aq.length)(O':aJ t.nodes lo (nth t.nodes (nth t.aq k).body.toNat).l (nth t.aq k).body.toNat):∀q,(q<lo\/(nth t.aq k).body.toNat+1<=q)->nth (fJ c k).aq q=nth c.aq q:=by
 subst hc;have Uh:=pw ht hk;have Xm:=ht.body _ (er hk);have haw:=aJ.kT Uh.1 Uh.2 O';have hI:=vR ht haw (by have:=Uh.1;have:=Uh.2;omega);have h:Fx (fun q=>lo<=q/\q<(nth c.aa.aq k).body.toNat+1) { c with fn:=(k:Int),vars:=[],more:=[],size:=0 } (fJ c k):=by
  unfold fJ;simp only;have h1:=F0 (fun q=>lo<=q/\q<(nth c.aa.aq k).body.toNat+1) (nth c.aa.aq k).body (nth c.aa.aq k).params { c with fn:=(k:Int),vars:=[],more:=[],size:=0 } 0;generalize eJ (nth c.aa.aq k).body { c with fn:=(k:Int),vars:=[],more:=[],size:=0 } (nth c.aa.aq k).params 0=d at*;have h2:=h1.trans (Be ht hI (vg ht hI c.aa.nodes.length) d (nth c.aa.aq k).body h1.aa ⟨by have:=O'.le;omega,jB⟩ Xm);split
  ·exact h2.trans (uF rfl rfl rfl)
  ·exact h1.trans (uF rfl rfl rfl)
 intro q hq;rcases h.at_ q with e|⟨e,_⟩
 ·exact e
 ·omega
def ec(p:ab)(c:Ck)(lo hi:Nat):Prop:=∀k,lo<=k->k<hi->nth p.types k=nth c.types k/\nth p.slots k=nth c.slots k/\nth p.fn k=nth c.aq k
def ec.sub{c:Ck}{lo' UN:Nat}(h:ec p c lo hi)(h1:lo<=lo')(h2:UN<=hi)(e:∀k,lo'<=k->k<UN->nth c.types k=nth c'.types k/\nth c.slots k=nth c'.slots k/\nth c.aq k=nth c'.aq k):ec p c' lo' UN:=fun k h3 h4=>by obtain⟨a,b,b'⟩:=h k jB jB;obtain⟨d,f,f'⟩:=e k h3 h4;exact⟨a.trans d,b.trans f,b'.trans f'⟩
structure xq(t:aF)(lo hi:Nat)(c c':Ck):Prop where
 ty:gk t lo hi c c'
 sl:fQ t lo hi c c'
 fx:Fx (fun k=>lo<=k/\k<hi) c c'
def Fx.out{c:Ck}(h:Fx (fun k=>lo<=k/\k<hi) c c')(k:Nat)(hk:k<lo\/hi<=k):nth c'.aq k=nth c.aq k:=by
 rcases h.at_ k with e|⟨e,_⟩
 ·exact e
 ·omega
theorem xq.out{t:aF}{lo hi:Nat}{c c':Ck}(h:xq t lo hi c c')(k:Nat)(hk:k<lo\/hi<=k):nth c'.types k=nth c.types k/\nth c'.slots k=nth c.slots k/\nth c'.aq k=nth c.aq k:=⟨h.ty.tw k hk,h.sl.sw k hk,h.fx.out k hk⟩
def Bq(ht:aL t){c:Ck}(h:bF c)(hc:c.aa=t)(hv:ca c)(hs:ct c)(h0:0<=a)(h1:a<t.nodes.length)(hn:a.toNat<n)(hr:eF (bA t.nodes a))(O':aJ t.nodes lo (nth t.nodes a.toNat).l a.toNat)(he:(au n c a).1.e=0) :
  xq t lo (a.toNat+1) c (au n c a).1/\nth (au n c a).1.types a.toNat=(au n c a).2:=by
 obtain⟨r1,r2,_⟩:=tU ht n c a lo h hc hv h0 h1 hn hr O' he;exact⟨⟨r1,wc ht n c a lo h hc hs h0 h1 hn hr O' he,C7 ht (vR ht (aJ.kT h0 h1 O') jB) n c a hc ⟨O'.le,jB⟩ hr⟩,r2⟩
theorem IH{t:aF}(ht:aL t){n:Nat}:∀(L:SI) (c:Ck) (ts:SI) (lo hi:Nat),bF c->c.aa=t->ca c->ct c->hi<=n->hi<=t.nodes.length->(∀x∈L,eF (bA t.nodes x))->aJ t.nodes lo L hi->(fV (au n) c L ts).1.e=0->(fV (au n) c L ts).2=ts++L.map fun x=>nth (fV (au n) c L ts).1.types x.toNat
 |[],c,ts,lo,hi,h,hc,hv,hs,hn,hl,hr,O',he=>by simp[fV]
 |a::L,c,ts,lo,hi,h,hc,hv,hs,hn,hl,hr,O',he=>by
  have e0:=(rp (dU n) (a::L) c ts).e0 he;unfold fV at he ⊢;rw[if_pos e0]at he ⊢;obtain⟨c1,c2,c3,c4,c5,c6⟩:=iM O';have ev:=dU n c a;have e1:=(rp (dU n) L _ _).e0 he;obtain⟨r1,r2⟩:=Bq ht h hc hv hs c1 c2 jB (hr a jE) c5 e1;have Vj:∀x∈L,eF (bA t.nodes x):=fun x hx=>hr x (by simp[hx])
  have k1:=Bf ht (tU ht n) L (au n c a).1 (ts++[(au n c a).2]) (a.toNat+1) hi (h.ev ev) (ev.aa.trans hc) (hv.ev ev) hn hl Vj c6 he;have k2:=IH ht L (au n c a).1 (ts++[(au n c a).2]) (a.toNat+1) hi (h.ev ev) (ev.aa.trans hc) (hv.ev ev) (hs.ev ev) hn hl Vj c6 he;rw[k2,List.map_cons,k1.tw a.toNat (.inl jB),r2];simp
theorem Hf(a:Int):∀(ts:SI) (ps:List bQ) (c:Ck),(gY a c ts ps).e=0->c.e=0/\∀i,i<ts.length->i<ps.length->nth ts i=(nth ps i).ty
 |[],ps,c,h=>by rw[sR]at h;exact⟨h,fun i hi=>by simp at hi⟩
 |_::_,[],c,h=>by rw[sN]at h;exact⟨h,fun i _ hi=>by simp at hi⟩
 |x::ts,p::ps,c,h=>by
  unfold gY at h;split at h
  ·rename_i e;obtain⟨h1,h2⟩:=Hf a ts ps _ h;obtain⟨h3,h4⟩:=iD h1;refine⟨h4,fun i hi UN=>?_⟩;cases i with
   |zero=>exact of_decide_eq_true h3
   |succ i=>exact h2 i (by simpa using hi) (by simpa using UN)
  ·rename_i e;exact(e h).elim
def JL(ht:aL t){c:Ck}(h:bF c)(hc:c.aa=t)(hv:ca c)(hs:ct c)(h0:0<=a)(h1:a<t.nodes.length)(hn:a.toNat<n)(hk:(nth t.nodes a.toNat).kind=21)(O':aJ t.nodes lo (nth t.nodes a.toNat).l a.toNat)(he:(au n c a).1.e=0)(hp:p.aa=t)(hA:ec p (au n c a).1 lo (a.toNat+1)):qt p a:=by
 obtain⟨m,rfl⟩:∃m,n=m+1:=⟨n-1,jB⟩;have hr:eF (bA t.nodes a):=by have:bA t.nodes a=21:=hk;rw[this];unfold eF;omega
 obtain⟨_,Uc⟩:=Bq ht h hc hv hs h0 h1 hn hr O' he;have e0:=(dU (m+1) c a).e0 he;have u':c.node a=nth t.nodes a.toNat:=by unfold Ck.node;rw[hc]
 have ZI:ao p a=nth t.nodes a.toNat:=by unfold ao;rw[hp]
 have e:cn (au m) c a=gM (au m) c a:=by unfold cn;simp only;rw[u',hk];rfl
 have Ug:fD c a=vF p a:=by unfold fD vF;rw[u',ZI,hc,hp]
 have Tn:=(ht.shape a.toNat jB).1.call hk;have hex:au (m+1) c a=((gM (au m) c a).1.note a (gM (au m) c a).2,(gM (au m) c a).2):=by
  conv=>lhs;unfold au
  rw[jN,e]
 rw[hex]at he hA Uc;have he:(gM (au m) c a).1.e=0:=he;have hAa:=(hA a.toNat O'.le jB).1;have Uc:nth ((gM (au m) c a).1.note a (gM (au m) c a).2).types a.toNat=(gM (au m) c a).2:=Uc;unfold gM at he hA hAa Uc;split at he
 ·exact(mJ jC he).elim
 rename_i hf;rw[if_neg hf]at hA hAa Uc;simp only at he hA hAa Uc;obtain⟨e1,e2⟩:=Hf _ _ _ _ he;have e1':=e1;split at e1'
 ·exact(mJ jC e1').elim
 rename_i hl;rw[if_neg hl]at hA;have U6:∀x∈(c.node a).l,eF (bA t.nodes x):=fun x hx=>.inl (Tn x (by rw[<-u'];exact hx))
 have ZJ:aJ t.nodes lo (c.node a).l a.toNat:=by rw[u'];exact O'
 have k2:=IH ht (n:=m) (c.node a).l c [] lo a.toNat h hc hv hs jB jB U6 ZJ e1';rw[List.nil_append]at k2;refine⟨?_,fun i hi=>?_⟩
 ·rw[hAa,Uc,Ug,hc,hp]
 ·rw[ZI,<-u']at hi ⊢;have Vf:i<(nth c.aa.aq (fD c a).toNat).params.length:=jB;have h3:=e2 i (by rw[k2,List.length_map];exact hi) Vf;rw[k2,dV (by rw[List.length_map];exact hi),List.getElem_map]at h3;have hm:=(ht.shape a.toNat jB).2.1 _ (by rw[<-u'];exact er hi);have SU:=(ZJ.mem _ (er hi)).2.1;have XV:=(hA (nth (c.node a).l i).toNat SU jB).1;rw[XV];show nth (List.set (gY a _ _ _).types a.toNat _) _=_;rw[pz,jN,Cw,<-Ug,hp,<-hc,<-h3,dV hi]
variable{nm:SK}
def Gw{c:Ck}(h:¬0<=c.find nm):∀v∈c.vars,v.name≠nm:=by
 rcases xO bP.name nm c.vars 0 jB with⟨_,h2⟩|h1
 ·exact h2
 ·exact(h h1.1).elim
def O8{c:Ck}(h:¬c.find nm<0):nth c.vars (c.find nm).toNat∈c.vars/\(nth c.vars (c.find nm).toNat).name=nm:=by
 have key:∀(l:List bP) (i:Int),0<=i->gx bP.name nm l i=-1\/(nth l (gx bP.name nm l i-i).toNat∈l/\(nth l (gx bP.name nm l i-i).toNat).name=nm/\i<=gx bP.name nm l i):=fun l=>by
  induction l with
  |nil=>intro i _;exact .inl rfl
  |cons v l ih=>
   intro i hi;unfold gx;by_cases hv:v.name=nm
   ·rw[if_pos hv,show(i-i).toNat=0 from jB];exact .inr ⟨by show v∈_;simp,hv,Int.le_refl _⟩
   ·rw[if_neg hv];rcases ih (i+1) jB with e|⟨a,b,d⟩
    ·exact .inl e
    ·rw[show(gx bP.name nm l (i+1)-i).toNat=(gx bP.name nm l (i+1)-(i+1)).toNat+1 from jB];exact .inr ⟨List.mem_cons_of_mem _ a,b,jB⟩
 rcases key c.vars 0 (Int.le_refl _)with e|⟨a,b,_⟩
 ·exact(h (by show gx bP.name nm c.vars 0<0;rw[e];decide)).elim
 ·rw[Int.sub_zero]at a b;exact⟨a,b⟩
def G0{c:Ck}(Tr:a.toNat<c.slots.length)(he:(c.named a).1.e=0)(hA:nth p.slots a.toNat=nth c'.slots a.toNat)(WN:nth c'.slots a.toNat=nth (c.named a).1.slots a.toNat):∃v∈c.vars,v.name=(c.node a).name/\v.slot=nth p.slots a.toNat/\v.ty=(c.named a).2:=by
 rw[hA,WN];unfold Ck.named at he ⊢;split at he
 ·exact(mJ jC he).elim
 rename_i hf;rw[if_neg hf];obtain⟨h1,h2⟩:=O8 hf;refine⟨_,h1,h2,?_,rfl⟩;show _=nth (List.set _ _ _) _;rw[pz,if_pos ⟨rfl,Tr⟩]
def zJ(t:aF)(n:Nat):Prop:=∀(c:Ck) (a:Int) (lo:Nat),bF c->c.aa=t->ca c->ct c->c.e=0->0<=a->a<t.nodes.length->a.toNat<n->eo (bA t.nodes a)->aJ t.nodes lo (nth t.nodes a.toNat).l a.toNat->(bH n c a).e=0->
 ∀p:ab,p.aa=t->ec p (bH n c a) lo (a.toNat+1)->∀j:Nat,c.fn=(j:Int)->(∀m,yo p j (oP p j m) c.vars a)/\(bH n c a).vars=oG p a c.vars
def NX(ht:aL t){c:Ck}(h:bF c)(hc:c.aa=t)(hv:ca c)(hs:ct c)(e0:c.e=0)(h0:0<=a)(h1:a<t.nodes.length)(hn:a.toNat<n)(hr:eo (bA t.nodes a))(O':aJ t.nodes lo (nth t.nodes a.toNat).l a.toNat)(he:(bH n c a).e=0) :
  xq t lo (a.toNat+1) c (bH n c a)/\ca (bH n c a)/\ct (bH n c a):=by
 obtain⟨r1,r2⟩:=uZ ht n c a lo h hc hv e0 h0 h1 hn hr O' he;obtain⟨r3,r4⟩:=uW ht n c a lo h hc hs e0 h0 h1 hn hr O' he;exact⟨⟨r1,r3,vg ht (vR ht (aJ.kT h0 h1 O') jB) n c a hc ⟨O'.le,jB⟩ hr⟩,r2,r4⟩
theorem GZ{t:aF}(ht:aL t){n:Nat}(P':zJ t n):∀(L:SI) (c:Ck) (lo hi:Nat),bF c->c.aa=t->ca c->ct c->hi<=n->hi<=t.nodes.length->(∀x∈L,eo (bA t.nodes x))->aJ t.nodes lo L hi->(dt (bH n) c L).e=0->
  ∀p:ab,p.aa=t->ec p (dt (bH n) c L) lo hi->∀j:Nat,c.fn=(j:Int)->∀m,vX (yo p j (oP p j m)) p c.vars L
 |[],c,lo,hi,h,hc,hv,hs,hn,hl,hr,O',he,p,hp,hA,j,hj,m=>trivial
 |a::L,c,lo,hi,h,hc,hv,hs,hn,hl,hr,O',he,p,hp,hA,j,hj,m=>by
  have e0:=(oN (lC n) (a::L) c h).e0 he;unfold dt at he hA;rw[if_pos e0]at he hA;obtain⟨c1,c2,c3,c4,c5,c6⟩:=iM O';have s:=lC n c a h e0;have e1:=(oN (lC n) L _ s.inv).e0 he;have V2:=hr a jE;obtain⟨r1,v1,v2⟩:=NX ht h hc hv hs e0 c1 c2 jB V2 c5 e1;have Vj:∀x∈L,eo (bA t.nodes x):=fun x hx=>hr x (by simp[hx])
  have k1:=(wB ht (lC n) (C:=eo) (fun q b l g1 g2 g3 g4 g5 g6 g7 g8 g9 g10=>uZ ht n q b l g1 g2 g3 g4 g5 g6 g7 g8 g9 g10) L _ _ hi s.inv (s.aa.trans hc) v1 hn hl Vj c6 he).1;have k2:=(xh (lC n) (C:=eo) (uW ht n) L _ _ hi s.inv (s.aa.trans hc) v2 hn Vj c6 he).1;have hI:=vR ht c6 hl;have k3:=ws (t:=t) (I:=fun k=>a.toNat+1<=k/\k<hi) (C:=eo) (vg ht hI n) L (bH n c a) (s.aa.trans hc) fun x hx=>⟨⟨(c6.mem x hx).2.1,(c6.mem x hx).2.2.1⟩,Vj x hx⟩
  obtain⟨w1,w2⟩:=P' c a lo h hc hv hs e0 c1 c2 jB V2 c5 e1 p hp (hA.sub jl jB fun k g1 g2=>⟨k1.tw k (.inl jB),k2.sw k (.inl jB),k3.out k (.inl jB)⟩) j hj;refine⟨w1 m,?_⟩;have w3:=GZ ht P' L _ (a.toNat+1) hi s.inv (s.aa.trans hc) v1 v2 hn hl Vj c6 he p hp (hA.sub jB jl fun k g1 g2=>⟨rfl,rfl,rfl⟩) j (s.fn.trans hj) m;rw[w2]at w3;exact w3
def HQ(ht:aL t)(P':zJ t n){c:Ck}(h:bF c)(hc:c.aa=t)(hv:ca c)(hs:ct c)(h0:0<=a)(h1:a<t.nodes.length)(hn:a.toNat<=n)(hk:bA t.nodes a=18)(O':aJ t.nodes lo (nth t.nodes a.toNat).l a.toNat)(he:(eL (bH n) c a).e=0)(hp:p.aa=t)(hA:ec p (eL (bH n) c a) lo (a.toNat+1))(hj:c.fn=(j:Int)):∀m,oP p j m c.vars a
 |0=>trivial
 |m+1=>by
  have u':c.node a=nth t.nodes a.toNat:=by unfold Ck.node;rw[hc]
  have hb:=(ht.shape a.toNat jB).1.block hk;have ev:=qb c a;show vX _ p c.vars (ao p a).l;have hnp:(ao p a).l=(c.node a).l:=by unfold ao;rw[hp,u']
  rw[hnp];exact GZ ht P' (c.node a).l (c.af a) lo a.toNat (h.ev ev) (ev.aa.trans hc) (hv.ev ev) (hs.ev ev) hn jB (fun x hx=>hb x (by rw[<-u'];exact hx)) (by rw[u'];exact O') he p hp (hA.sub jl jB fun k _ _=>⟨rfl,rfl,rfl⟩) j hj m
theorem DV{t:aF}(ht:aL t){n:Nat}(P':zJ t n):∀(L:SI) (c:Ck) (lo hi:Nat),bF c->c.aa=t->ca c->ct c->hi<=n->hi<=t.nodes.length->(∀x∈L,bA t.nodes x=18)->aJ t.nodes lo L hi->(dt (eL (bH n)) c L).e=0->
  ∀p:ab,p.aa=t->ec p (dt (eL (bH n)) c L) lo hi->∀j:Nat,c.fn=(j:Int)->(∀b∈L,∀m,oP p j m c.vars b)/\(dt (eL (bH n)) c L).vars=c.vars
 |[],c,lo,hi,h,hc,hv,hs,hn,hl,hr,O',he,p,hp,hA,j,hj=>⟨fun b hb=>by simp at hb,rfl⟩
 |a::L,c,lo,hi,h,hc,hv,hs,hn,hl,hr,O',he,p,hp,hA,j,hj=>by
  have Xn:∀(q:Ck) b,bF q->q.e=0->Sv q (eL (bH n) q b):=fun q b hq _=>(pA (lC n) hq b).1
  have e0:=(oN Xn (a::L) c h).e0 he;unfold dt at he hA ⊢;rw[if_pos e0]at he hA ⊢;obtain⟨c1,c2,c3,c4,c5,c6⟩:=iM O';obtain⟨s,sv⟩:=pA (lC n) h a;have e1:=(oN Xn L _ s.inv).e0 he;have V2:=hr a jE;have r1:=yv ht (uZ ht n) c a lo h hc hv c1 c2 jB V2 c5 e1;have r2:=zX ht (uW ht n) c a lo h hc hs c1 c2 jB V2 c5 e1;have Vj:∀x∈L,bA t.nodes x=18:=fun x hx=>hr x (by simp[hx])
  have k1:=(wB ht Xn (C:=fun k=>k=18) (n:=n) (fun q b l g1 g2 g3 _ g5 g6 g7 g8 g9 g10=>yv ht (uZ ht n) q b l g1 g2 g3 g5 g6 jB g8 g9 g10) L _ _ hi s.inv (s.aa.trans hc) r1.2 hn hl Vj c6 he).1;have k2:=(xh Xn (C:=fun k=>k=18) (n:=n) (fun q b l g1 g2 g3 _ g5 g6 g7 g8 g9 g10=>zX ht (uW ht n) q b l g1 g2 g3 g5 g6 jB g8 g9 g10) L _ _ hi s.inv (s.aa.trans hc) r2.2 hn Vj c6 he).1;have hI:=vR ht c6 hl;have k3:=ws (t:=t) (I:=fun k=>a.toNat+1<=k/\k<hi) (C:=fun k=>k=18) (fun d b hd hb hk=>Be ht hI (vg ht hI n) d b hd hb hk) L (eL (bH n) c a) (s.aa.trans hc) fun x hx=>⟨⟨(c6.mem x hx).2.1,(c6.mem x hx).2.2.1⟩,Vj x hx⟩
  have w1:=HQ ht P' h hc hv hs c1 c2 jB V2 c5 e1 hp (hA.sub jl jB fun k g1 g2=>⟨k1.tw k (.inl jB),k2.sw k (.inl jB),k3.out k (.inl jB)⟩) hj;obtain⟨w2,w3⟩:=DV ht P' L _ (a.toNat+1) hi s.inv (s.aa.trans hc) r1.2 r2.2 hn hl Vj c6 he p hp (hA.sub jB jl fun k g1 g2=>⟨rfl,rfl,rfl⟩) j (s.fn.trans hj);rw[sv]at w2;refine⟨fun b hb=>?_,w3.trans sv⟩;rcases List.mem_cons.1 hb with rfl|hb
  ·exact w1
  ·exact w2 b hb
def IM(c:Ck)(b:Bool)(a:Int):(c.ar b a).aq=c.aq:=by
 unfold Ck.ar;split
 ·rfl
 ·unfold Ck.aG;split<;>rfl
def tQ{vars:List bP}(h:(ao p a).kind≠10):oG p a vars=vars:=if_neg h
def zZ(ht:aL t){c0:Ck}{x:Int}(h:bF c0)(hc:c0.aa=t)(hv:ca c0)(hs:ct c0)(hn:a.toNat<=n)(hl:(nth t.nodes a.toNat).l=[x])(hx:eF (bA t.nodes x))(O':aJ t.nodes lo (nth t.nodes a.toNat).l a.toNat)(he:(au n c0 x).1.e=0) :
  xq t lo a.toNat c0 (au n c0 x).1/\nth (au n c0 x).1.types x.toNat=(au n c0 x).2/\lo<=x.toNat/\x.toNat<a.toNat/\∀{p:ab},p.aa=t->(nth t.nodes x.toNat).kind=21->ec p (au n c0 x).1 lo a.toNat->qt p x:=by
 rw[hl]at O';obtain⟨c1,c2,c3,c4,c5⟩:=kq O';rw[c4];obtain⟨r1,r2⟩:=Bq ht h hc hv hs c1 c2 jB hx c5 he;exact⟨r1,r2,c3,jB,fun hp hk hA=>JL ht h hc hv hs c1 c2 jB hk c5 he hp hA⟩
theorem Gj{t:aF}(ht:aL t):∀n,zJ t n
 |0=>fun c a lo h hc hv hs e0 h0 h1 hn=>by omega
 |n+1=>fun c a lo h hc hv hs e0 h0 h1 hn hr O' he p hp hA j hj=>by
  have ih:=Gj ht n;have u':(c.af a).node a=nth t.nodes a.toNat:=by unfold Ck.node;show nth c.aa.nodes _=_;rw[hc]
  have sh:=(ht.shape a.toNat jB).1;have kd:∀i,(c.af a).aE a i=nth (nth t.nodes a.toNat).l i:=fun i=>by unfold Ck.aE;rw[u']
  have Tt:ao p a=nth t.nodes a.toNat:=by unfold ao;rw[hp]
  have ndp:∀x:Int,ao p x=nth t.nodes x.toNat:=fun x=>by unfold ao;rw[hp]
  have ev:=qb c a;have h':=h.ev ev;have TD:=ev.aa.trans hc;have Th:=hv.ev ev;have VT:=hs.ev ev;have SU:=O'.le;have V9:(nth t.nodes a.toNat).kind=10\/(nth t.nodes a.toNat).kind=11\/(nth t.nodes a.toNat).kind=12\/(nth t.nodes a.toNat).kind=13\/(nth t.nodes a.toNat).kind=14\/(nth t.nodes a.toNat).kind=17\/(nth t.nodes a.toNat).kind=15\/(nth t.nodes a.toNat).kind=16:=by have:eo (nth t.nodes a.toNat).kind:=hr;unfold eo at this;omega
  have Tr:a.toNat<(c.af a).slots.length:=by rw[h'.slots,TD];omega
  have US:nth p.fn a.toNat=(j:Int):=by
   rw[(hA a.toNat SU jB).2.2,<-hj];have hI:=vR ht (aJ.kT h0 h1 O') jB;have fx:=E4 ht hI (vg ht hI n) c a hc ⟨SU,jB⟩ hr;rcases fx.at_ a.toNat with e|⟨_,e⟩
   ·rw[e];show nth (c.aq.set a.toNat c.fn) a.toNat=_;rw[pz,if_pos ⟨rfl,by rw[h.aq,hc];omega⟩]
   ·exact e
  rcases V9 with k|k|k|k|k|k|k
  ·have e:bH (n+1) c a=o0 (au n) (c.af a) a:=by unfold bH;simp only;rw[u',k];rfl
   obtain⟨x,hl,Vk⟩:=sh.right jB;have S3:(c.af a).aE a 0=x:=by rw[kd,hl];rfl
   rw[e]at he hA ⊢;rw[tJ]at he hA ⊢;have he:(dP (au n) (c.af a) a).e=0:=he;have Vh:=wO (dU n) (c.af a) a;obtain⟨_,q1⟩:=tZ jC he;have q1:dP (au n) (c.af a) a=jf (au n) (c.af a) a:=q1;have heC:=he;rw[q1]at he;obtain⟨q3,q2⟩:=tZ jC he;have q2:jf (au n) (c.af a) a=gC (au n) (c.af a) a:=q2;rw[q2]at he;unfold gC at he;rw[S3]at he;obtain⟨b1,b2⟩:=iD he;obtain⟨r1,r2,r3,r4,r5⟩:=zZ ht h' TD Th VT jB hl Vk O' b2;have Uc:(dP (au n) (c.af a) a).types=(au n (c.af a) x).1.types:=by rw[q1,q2];unfold gC;rw[S3];exact kP _ _ _
   have hax:(dP (au n) (c.af a) a).slots=(au n (c.af a) x).1.slots:=by rw[q1,q2];unfold gC;rw[S3];exact(rH _ _ _).1
   have XV:ec p (au n (c.af a) x).1 lo a.toNat:=hA.sub jl jB fun i g1 g2=>⟨by show nth (dP (au n) (c.af a) a).types i=_;rw[Uc],by show nth (List.set _ _ _) i=_;rw[pz,jN,hax],by show nth (dP (au n) (c.af a) a).aq i=_;rw[q1,q2];unfold gC;rw[S3,IM]⟩
   have hAx:=(XV x.toNat r3 r4).1;have hay:a.toNat<(dP (au n) (c.af a) a).slots.length:=by rw[Vh.slots];exact Tr
   have hAs:nth p.slots a.toNat=(dP (au n) (c.af a) a).size:=by rw[(hA a.toNat SU jB).2.1];show nth (List.set _ _ _) _=_;rw[pz,if_pos ⟨rfl,hay⟩]
   have T3:nth (ao p a).l 0=x:=by rw[Tt,hl];rfl
   have XW:(gC (au n) (c.af a) a).vars=c.vars:=(Am (dU n) (c.af a) a).vars;refine⟨fun m=>⟨US,fun _ v UJ=>⟨?_,?_⟩,fun k'=>?_,fun k'=>?_,fun _ k'=>?_,fun k'=>?_,fun k'=>?_⟩,?_⟩
   ·have:=Gw q3 v (by rw[XW];exact UJ);rw[Tt,<-u'];exact this
   ·have:=hs.2 v UJ;have hz:(dP (au n) (c.af a) a).size=c.size:=Vh.size;rw[hAs,hz];omega
   ·rw[Tt]at k';omega
   ·rw[Tt]at k';omega
   ·rw[T3]at k' ⊢;rw[ndp]at k';exact r5 hp k' XV
   ·rw[Tt]at k';omega
   ·rw[Tt]at k';omega
   ·show(dP (au n) (c.af a) a).vars++[(⟨((c.af a).node a).name,(au n (c.af a) ((c.af a).aE a 0)).2,(dP (au n) (c.af a) a).size⟩:bP)]=oG p a c.vars;unfold oG H4;rw[if_pos (by rw[Tt];exact k),S3,<-hAs,T3,hAx,r2,u',Tt,q1,q2,XW]
  ·have e:bH (n+1) c a=(au n ((c.af a).named a).1 ((c.af a).aE a 0)).1.ar (decide (((c.af a).named a).2=(au n ((c.af a).named a).1 ((c.af a).aE a 0)).2)) a:=by unfold bH;simp only;rw[u',k];rfl
   obtain⟨x,hl,Vk⟩:=sh.right jB;have S3:(c.af a).aE a 0=x:=by rw[kd,hl];rfl
   rw[e]at he hA ⊢;rw[S3]at he hA ⊢;obtain⟨b1,b2⟩:=iD he;have en:=ni (c.af a) a;obtain⟨r1,r2,r3,r4,r5⟩:=zZ ht (h'.ev en) (en.aa.trans TD) (Th.ev en) (VT.ev en) jB hl Vk O' b2;have XV:ec p (au n ((c.af a).named a).1 x).1 lo (a.toNat+1):=hA.sub jl jl fun i _ _=>⟨by rw[kP],by rw[(rH _ _ _).1],by rw[IM]⟩
   have hAx:=(XV x.toNat r3 jB).1;obtain⟨v,v1,v2,v3,v4⟩:=G0 (c':=(au n ((c.af a).named a).1 x).1) Tr ((dU n _ x).e0 b2) (XV a.toNat SU jB).2.1 (r1.out a.toNat (.inr jl)).2.1;have T3:nth (ao p a).l 0=x:=by rw[Tt,hl];rfl
   refine⟨fun m=>⟨US,fun k'=>?_,fun _=>⟨v,v1,?_,v3,?_⟩,fun k'=>?_,fun _ k'=>?_,fun k'=>?_,fun k'=>?_⟩,?_⟩
   ·rw[Tt]at k';omega
   ·rw[v2,u',Tt]
   ·rw[v4,T3,hAx,r2];exact of_decide_eq_true b1
   ·rw[Tt]at k';omega
   ·rw[T3]at k' ⊢;rw[ndp]at k';exact r5 hp k' (XV.sub jl jB fun _ _ _=>⟨rfl,rfl,rfl⟩)
   ·rw[Tt]at k';omega
   ·rw[Tt]at k';omega
   ·rw[tQ (by rw[Tt];omega)];exact((((ev.trans en).trans (dU n _ x)).trans (iW _ _ _)).vars)
  ·have e:bH (n+1) c a=(au n (au n ((c.af a).named a).1 ((c.af a).aE a 0)).1 ((c.af a).aE a 1)).1.ar (decide (((c.af a).named a).2=4) && decide ((au n ((c.af a).named a).1 ((c.af a).aE a 0)).2=1) && decide ((au n (au n ((c.af a).named a).1 ((c.af a).aE a 0)).1 ((c.af a).aE a 1)).2=1)) a:=by unfold bH;simp only;rw[u',k];rfl
   obtain⟨x,y,hl,S4,Vq⟩:=sh.two jB;have S3:(c.af a).aE a 0=x:=by rw[kd,hl];rfl
   have Te:(c.af a).aE a 1=y:=by rw[kd,hl];rfl
   rw[e]at he hA ⊢;rw[S3,Te]at he hA ⊢;obtain⟨b1,b2⟩:=iD he;have en:=ni (c.af a) a;have r1:=Ie ht (h'.ev en) (en.aa.trans TD) (VT.ev en) jB hl S4 Vq O' b2;obtain⟨v,v1,v2,v3,v4⟩:=G0 (p:=p) (c':=(au n (au n ((c.af a).named a).1 x).1 y).1) Tr ((dU n _ x).e0 ((dU n _ y).e0 b2)) (by rw[(hA a.toNat SU jB).2.1,(rH _ _ _).1]) (r1.sw a.toNat (.inr jl));rw[Bool.and_eq_true,Bool.and_eq_true]at b1;refine⟨fun m=>⟨US,fun k'=>?_,fun k'=>?_,fun _=>⟨v,v1,?_,v3,?_⟩,fun k'=>?_,fun k'=>?_,fun k'=>?_⟩,?_⟩
   ·rw[Tt]at k';omega
   ·rw[Tt]at k';omega
   ·rw[v2,u',Tt]
   ·rw[v4];exact of_decide_eq_true b1.1.1
   ·rw[Tt]at k';omega
   ·rw[Tt]at k';omega
   ·rw[Tt]at k';omega
   ·rw[tQ (by rw[Tt];omega)];exact(((((ev.trans en).trans (dU n _ x)).trans (dU n _ y)).trans (iW _ _ _)).vars)
  ·have e:bH (n+1) c a=(au n (c.af a) ((c.af a).aE a 0)).1:=by unfold bH;simp only;rw[u',k];rfl
   obtain⟨x,hl,XU⟩:=sh.nN k;have S3:(c.af a).aE a 0=x:=by rw[kd,hl];rfl
   rw[e]at he hA ⊢;rw[S3]at he hA ⊢;obtain⟨r1,r2,r3,r4,r5⟩:=zZ ht h' TD Th VT jB hl (by rw[XU];unfold eF;omega) O' he;have T3:nth (ao p a).l 0=x:=by rw[Tt,hl];rfl
   refine⟨fun m=>⟨US,fun k'=>?_,fun k'=>?_,fun k'=>?_,fun _ k'=>?_,fun k'=>?_,fun k'=>?_⟩,?_⟩
   ·rw[Tt]at k';omega
   ·rw[Tt]at k';omega
   ·rw[Tt]at k';omega
   ·rw[T3]at k' ⊢;rw[ndp]at k';exact r5 hp k' (hA.sub jl jB fun _ _ _=>⟨rfl,rfl,rfl⟩)
   ·rw[Tt]at k';omega
   ·rw[Tt]at k';omega
   ·rw[tQ (by rw[Tt];omega)];exact(ev.trans (dU n _ x)).vars
  ·have e:bH (n+1) c a=(au n (c.af a) ((c.af a).aE a 0)).1.ar (!decide ((au n (c.af a) ((c.af a).aE a 0)).2=4)) a:=by unfold bH;simp only;rw[u',k];rfl
   rw[e];refine⟨fun m=>⟨US,fun k'=>?_,fun k'=>?_,fun k'=>?_,fun k'=>?_,fun k'=>?_,fun k'=>?_⟩,?_⟩
   ·rw[Tt]at k';omega
   ·rw[Tt]at k';omega
   ·rw[Tt]at k';omega
   ·rw[Tt]at k';omega
   ·rw[Tt]at k';omega
   ·rw[Tt]at k';omega
   ·rw[tQ (by rw[Tt];omega)];exact((ev.trans (dU n _ _)).trans (iW _ _ _)).vars
  ·have e:bH (n+1) c a=ki (au n) (c.af a) a:=by unfold bH;simp only;rw[u',k];rfl
   rw[e]at he hA ⊢;unfold ki at he hA ⊢;rw[u']at he hA ⊢;simp only at he hA ⊢;split at he
   ·exact(mJ jC he).elim
   rename_i hf;rw[if_neg hf]at hA ⊢;have hft:(nth (c.af a).aa.aq (c.af a).fn.toNat).ret=(nth p.aa.aq j).ret:=by show(nth c.aa.aq c.fn.toNat).ret=_;rw[hc,hj,hp];rfl
   rw[hft]at hf he hA ⊢;rcases sh.ret k with hl|⟨x,hl,S4⟩
   ·rw[hl]at hf ⊢;rw[if_neg jC];have hz:(nth p.aa.aq j).ret=0:=by
     have hf:=Classical.not_not.1 hf;rw[show decide (([]:SI).length=1)=false from rfl]at hf;exact Classical.byContradiction fun Tb=>by rw[decide_eq_false Tb]at hf;cases hf
    refine⟨fun m=>⟨US,fun k'=>?_,fun k'=>?_,fun k'=>?_,fun k'=>?_,fun _=>⟨fun k'=>?_,fun _=>hz⟩,fun k'=>?_⟩,?_⟩
    ·rw[Tt]at k';omega
    ·rw[Tt]at k';omega
    ·rw[Tt]at k';omega
    ·rw[Tt]at k';omega
    ·rw[Tt,hl]at k';cases k'
    ·rw[Tt]at k';omega
    ·rw[tQ (by rw[Tt];omega)];exact ev.vars
   ·have S3:(c.af a).aE a 0=x:=by rw[kd,hl];rfl
    have Uf:(nth t.nodes a.toNat).l.length=1:=by rw[hl];rfl
    rw[if_pos Uf]at he hA ⊢;rw[S3]at he hA ⊢;obtain⟨b1,b2⟩:=iD he;obtain⟨r1,r2,r3,r4,r5⟩:=zZ ht h' TD Th VT jB hl (.inl S4) O' b2;have T3:nth (ao p a).l 0=x:=by rw[Tt,hl];rfl
    refine⟨fun m=>⟨US,fun k'=>?_,fun k'=>?_,fun k'=>?_,fun k'=>?_,fun _=>⟨fun _=>?_,fun k'=>?_⟩,fun k'=>?_⟩,?_⟩
    ·rw[Tt]at k';omega
    ·rw[Tt]at k';omega
    ·rw[Tt]at k';omega
    ·rw[Tt]at k';omega
    ·rw[T3,(hA x.toNat r3 jB).1,kP,r2];exact of_decide_eq_true b1
    ·rw[Tt,hl]at k';exact(k' rfl).elim
    ·rw[Tt]at k';omega
    ·rw[tQ (by rw[Tt];omega)];exact((ev.trans (dU n _ x)).trans (iW _ _ _)).vars
  ·have e:bH (n+1) c a=dt (eL (bH n)) ((au n (c.af a) ((c.af a).aE a 0)).1.ar (decide ((au n (c.af a) ((c.af a).aE a 0)).2=2)) a) (((c.af a).node a).l.drop 1):=by
    unfold bH;simp only;rw[u'];rcases k with k|k<;>rw[k]<;>rfl
   have UY:∃x L,(nth t.nodes a.toNat).l=x::L/\bT (bA t.nodes x)/\∀y∈L,bA t.nodes y=18:=by
    rcases k with k|k
    ·obtain⟨x,y,hx,hy,hl|⟨z,hl,hz⟩⟩:=sh.kI k
     ·exact⟨x,[y],hl,hx,fun u hu=>by rw[List.mem_singleton.1 hu];exact hy⟩
     ·exact⟨x,[y,z],hl,hx,fun u hu=>by
       rcases List.mem_cons.1 hu with rfl|hu
       ·exact hy
       ·rw[List.mem_singleton.1 hu];exact hz⟩
    ·obtain⟨x,y,hl,hx,hy⟩:=sh.dS k;exact⟨x,[y],hl,hx,fun u hu=>by rw[List.mem_singleton.1 hu];exact hy⟩
   obtain⟨x,L,hl,S4,hL⟩:=UY;have S3:(c.af a).aE a 0=x:=by rw[kd,hl];rfl
   rw[e]at he hA ⊢;rw[u',hl,S3]at he hA ⊢;have he:(dt (eL (bH n)) ((au n (c.af a) x).1.ar (decide ((au n (c.af a) x).2=2)) a) L).e=0:=he;have hA:ec p (dt (eL (bH n)) ((au n (c.af a) x).1.ar (decide ((au n (c.af a) x).2=2)) a) L) lo (a.toNat+1):=hA;have ex:=(dU n (c.af a) x).trans (iW _ (decide ((au n (c.af a) x).2=2)) a);have TP:=h'.ev ex;rw[hl]at O';obtain⟨c1,c2,c3,c4,c5,c6⟩:=iM O';obtain⟨w1,w2⟩:=DV ht ih L _ (x.toNat+1) a.toNat TP (ex.aa.trans TD) (Th.ev ex) (VT.ev ex) jB jB hL c6 he p hp (hA.sub jB jB fun _ _ _=>⟨rfl,rfl,rfl⟩) j (ex.fn.trans hj);rw[ex.vars]at w1 w2;refine⟨fun m=>⟨US,fun k'=>?_,fun k'=>?_,fun k'=>?_,fun k'=>?_,fun k'=>?_,fun _ b hb=>?_⟩,?_⟩
   ·rw[Tt]at k';omega
   ·rw[Tt]at k';omega
   ·rw[Tt]at k';omega
   ·rw[Tt]at k';omega
   ·rw[Tt]at k';omega
   ·rw[Tt,hl]at hb;exact w1 b hb m
   ·rw[tQ (by rw[Tt];omega)];exact w2
theorem F1(body:Int):∀(ps:List bQ) (c:Ck) (i:Int),(∀v∈c.vars,v.slot<i)->p8 c.vars->(eJ body c ps i).e=0->(eJ body c ps i).vars=c.vars++nF ps i/\p8 (eJ body c ps i).vars/\c.e=0
 |[],c,i,hs,hv,he=>by unfold eJ at he ⊢;exact⟨by simp[nF],hv,he⟩
 |p::ps,c,i,hs,hv,he=>by
  unfold eJ at he ⊢;simp only at he ⊢;have fin:∀c1:Ck,c1.vars=c.vars->(eJ body (kR c1 ⟨p.name,p.ty,i⟩) ps (i+1)).e=0->((c1.e=0)->∀v∈c.vars,v.name≠p.name)->(eJ body (kR c1 ⟨p.name,p.ty,i⟩) ps (i+1)).vars=c.vars++nF (p::ps) i/\p8 (eJ body (kR c1 ⟨p.name,p.ty,i⟩) ps (i+1)).vars/\c1.e=0:=fun c1 e1 V4 hn=>by
   have hz:c1.e=0:=by
    have key:∀(ps:List bQ) (c:Ck) (i:Int),(eJ body c ps i).e=0->c.e=0:=fun ps=>by
     induction ps with
     |nil=>intro c i h;unfold eJ at h;exact h
     |cons q ps ih=>
      intro c i h;unfold eJ at h;simp only at h;have h:=ih _ _ h;have h:(if 0<=c.find q.name then c.aG 41 body else c).e=0:=h;split at h
      ·exact(mJ jC h).elim
      ·exact h
    exact key ps (kR c1 ⟨p.name,p.ty,i⟩) _ V4
   have UJ:(kR c1 ⟨p.name,p.ty,i⟩).vars=c.vars++[⟨p.name,p.ty,i⟩]:=by show c1.vars++_=_;rw[e1]
   obtain⟨g1,g2,_⟩:=F1 body ps (kR c1 ⟨p.name,p.ty,i⟩) (i+1) (fun v hv=>by
    rw[UJ]at hv;rcases List.mem_append.1 hv with hv|hv
    ·have:=hs v hv;omega
    ·rw[List.mem_singleton.1 hv];show i<i+1;omega) (by rw[UJ];refine List.pairwise_append.2 ⟨hv,jE,fun v hv w hw=>?_⟩;rw[List.mem_singleton.1 hw];refine⟨hn hz v hv,?_⟩;have:=hs v hv;show v.slot≠i;omega) V4
   refine⟨?_,g2,hz⟩;rw[g1,UJ,List.append_assoc];rfl
  split at he
  ·exfalso;obtain⟨_,_,h3⟩:=fin (c.aG 41 body) (mX c jC body).vars he (fun h=>(mJ jC h).elim);exact mJ jC h3
  ·rename_i hf;rw[if_neg hf];exact fin c rfl he fun _=>Gw hf
def Mn(ht:aL t){c:Ck}(h:fI c)(hc:c.aa=t)(hk:k<t.aq.length)(SY:c.aR.length<6)(O':aJ t.nodes lo (nth t.nodes (nth t.aq k).body.toNat).l (nth t.aq k).body.toNat)(he:(fJ c k).e=0)(hp:p.aa=t)(hA:ec p (fJ c k) lo ((nth t.aq k).body.toNat+1)):pS p k:=by
 have SW:k<c.aa.aq.length:=by rw[hc];exact hk
 have XT:=h.aa.fn _ (er SW);have VI:bF { c with fn:=(k:Int),vars:=[],more:=[],size:=0 }:=⟨h.aa,h.types,h.slots,h.aq,by show c.aR.length<=6;omega,by show(0:Int)<=k;omega,by show(k:Int)<(c.aa.aq.length:Int);omega,by show((0:Nat):Int)<=0;omega,by show(0:Int)<=25;omega,fun _=>by show(0:Int)<=24;omega⟩;obtain⟨a,b,d⟩:=yi (nth c.aa.aq k).body (nth c.aa.aq k).params _ 0 VI (by show(0:Int)+_<=20;omega);obtain⟨a',b',d'⟩:=CF (nth c.aa.aq k).body (nth c.aa.aq k).params { c with fn:=(k:Int),vars:=[],more:=[],size:=0 } 0 ⟨by show(0:Int)<=0;omega,fun v hv=>by simp at hv⟩ rfl;obtain⟨a2,b2,d2⟩:=Da (t:=t) (nth c.aa.aq k).body (nth c.aa.aq k).params { c with fn:=(k:Int),vars:=[],more:=[],size:=0 } 0 (fun v hv=>by simp at hv) XT.1.ps;have w:=F1 (nth c.aa.aq k).body (nth c.aa.aq k).params { c with fn:=(k:Int),vars:=[],more:=[],size:=0 } 0 (fun v hv=>by simp at hv) List.Pairwise.nil;have Uh:=pw ht hk;have Xm:=ht.body _ (er hk);have US:(eJ (nth c.aa.aq k).body { c with fn:=(k:Int),vars:=[],more:=[],size:=0 } (nth c.aa.aq k).params 0).fn=(k:Int):=by
  have key:∀(ps:List bQ) (c:Ck) (i:Int),(eJ (nth t.aq k).body c ps i).fn=c.fn:=fun ps=>by
   induction ps with
   |nil=>intro c i;rfl
   |cons q ps ih=>
    intro c i;unfold eJ;simp only;rw[ih];show(if 0<=c.find q.name then c.aG 41 _ else c).fn=c.fn;split
    ·exact(mX c jC _).fn
    ·rfl
  rw[hc];exact key _ _ _
 unfold fJ at he hA;simp only at he hA;rw[hc]at he hA;rw[hc]at a b d a' b' d' a2 b2 d2 w US;split at he
 ·rename_i e1;rw[if_pos e1]at hA;obtain⟨w1,w2,_⟩:=w e1;have w1:_=nF (nth t.aq k).params 0:=w1;refine⟨?_,fun m=>?_⟩
  ·rw[hp,<-w1];exact w2
  ·have:=HQ ht (Gj ht t.nodes.length) a (b.trans (by rfl)) a2 a' Uh.1 Uh.2 (by have:=Uh.2;have:=Uh.1;omega) Xm O' he hp (hA.sub jl jl fun _ _ _=>⟨rfl,rfl,rfl⟩) US m;rw[w1]at this;rw[hp];exact this
 ·rename_i e1;exact(e1 he).elim
theorem Ga{t:aF}(ht:aL t):∀(n i lo:Nat) (c:Ck),fI c->c.aa=t->c.aR.length=i->i+n=t.aq.length->aJ t.nodes lo ((t.aq.drop i).map (·.body)) t.nodes.length->(fO c i n).e=0->∀q,q<lo->nth (fO c i n).slots q=nth c.slots q/\nth (fO c i n).aq q=nth c.aq q
 |0,i,lo,c,h,hc,hs,hi,O',he=>fun q hq=>⟨rfl,rfl⟩
 |n+1,i,lo,c,h,hc,hs,hi,O',he=>by
  have h6:=ht.aq;unfold fO at he ⊢;by_cases e0:c.e=0
  ·rw[if_pos e0]at he ⊢;have hk:i<t.aq.length:=jB;rw[lG hk]at O';obtain⟨c1,c2,c3,c4,c5,c6⟩:=iM (a:=(nth t.aq i).body) O';obtain⟨f1,f2,f3⟩:=wN h (by rw[hc];exact hk) (by omega:c.aR.length<6);have e1:(fJ c i).e=0:=by
    cases n with
    |zero=>unfold fO at he;exact he
    |succ m=>
     unfold fO at he;split at he
     ·assumption
     ·exact he
   have r:=(E6 ht h hc hk jB c5 e1).1;have r':=Rg ht hc hk c5;intro q hq;have ih:=Ga ht n (i+1) ((nth t.aq i).body.toNat+1) (fJ c i) f1 (f2.trans hc) jB jB c6 he q jB;exact⟨ih.1.trans (r q (.inl hq)),ih.2.trans (r' q (.inl hq))⟩
  ·rw[if_neg e0]at he;exact(e0 he).elim
theorem FQ{t:aF}(ht:aL t):∀(n i lo:Nat) (c:Ck),fI c->c.aa=t->c.aR.length=i->i+n=t.aq.length->aJ t.nodes lo ((t.aq.drop i).map (·.body)) t.nodes.length->(fO c i n).e=0->
  ∀p:ab,p.aa=t->ec p (fO c i n) lo t.nodes.length->∀j,i<=j->j<t.aq.length->pS p j
 |0,i,lo,c,h,hc,hs,hi,O',he,p,hp,hA=>fun j h1 h2=>by omega
 |n+1,i,lo,c,h,hc,hs,hi,O',he,p,hp,hA=>by
  have h6:=ht.aq;unfold fO at he hA;by_cases e0:c.e=0
  ·rw[if_pos e0]at he hA;have hk:i<t.aq.length:=jB;rw[lG hk]at O';obtain⟨c1,c2,c3,c4,c5,c6⟩:=iM (a:=(nth t.aq i).body) O';obtain⟨f1,f2,f3⟩:=wN h (by rw[hc];exact hk) (by omega:c.aR.length<6);have e1:(fJ c i).e=0:=by
    cases n with
    |zero=>unfold fO at he;exact he
    |succ m=>
     unfold fO at he;split at he
     ·assumption
     ·exact he
   obtain⟨r2,q1,q2,q3⟩:=yk ht n (i+1) ((nth t.aq i).body.toNat+1) (fJ c i) f1 (f2.trans hc) jB jB c6 he;have r3:=Ga ht n (i+1) ((nth t.aq i).body.toNat+1) (fJ c i) f1 (f2.trans hc) jB jB c6 he;intro j h1 h2;by_cases hj:j=i
   ·subst hj;exact Mn ht h hc hk jB c5 e1 hp (hA.sub jl jB fun q g1 g2=>⟨r2.tw q (.inl jB),(r3 q jB).1,(r3 q jB).2⟩)
   ·exact FQ ht n (i+1) ((nth t.aq i).body.toNat+1) (fJ c i) f1 (f2.trans hc) jB jB c6 he p hp (hA.sub jB jl fun _ _ _=>⟨rfl,rfl,rfl⟩) j jB h2
  ·rw[if_neg e0]at he;exact(e0 he).elim
def MB(ht:aL t)(he:(ij t).2.2=0):∀j,j<(ij t).1.aa.aq.length->pS (ij t).1 j:=by
 unfold ij at he ⊢;split at he
 ·rename_i h;exact(h he).elim
 rename_i h;rw[if_neg h];have h:(iu t).e=0:=jB;obtain⟨i1,i2,i3⟩:=AR ht;obtain⟨_,q1,_⟩:=yk ht t.aq.length 0 0 (jh (jM t)) i1 i2 (by rw[i3];rfl) jB (by rw[List.drop_zero];exact ht.chain) h;have he:(iu t).aa=t:=q1;intro j hj;have hj:j<t.aq.length:=by rw[<-he];exact hj
 exact FQ ht t.aq.length 0 0 (jh (jM t)) i1 i2 (by rw[i3];rfl) jB (by rw[List.drop_zero];exact ht.chain) h (iu t).prog he (fun _ _ _=>⟨rfl,rfl,rfl⟩) j (Nat.zero_le _) hj
def RR{s:SK}(he:(gy s).2.2=0):∀j,j<(gy s).1.aa.aq.length->pS (gy s).1 j:=by
 unfold gy at he ⊢;split at he
 ·rename_i h;exact(h he).elim
 rename_i h;rw[if_neg h];have h:(gP s).2.2=0:=jB;simp only at he ⊢;split at he
 ·cases he
 rename_i h2;split at he
 ·rename_i h3;exact(h3 he).elim
 rename_i h3;rw[if_neg h2,if_neg h3];exact MB (xS h) jB
structure jc(p:ab)(N:Int)(f:aH):Prop where
 ny:qN p (fun b=>b=(nth p.aa.aq f.fn.toNat).body) f.path
 vk:∀v∈kY p f,0<=v.slot/\v.slot<f.slots.length/\(nth f.slots v.slot.toNat).ty=v.ty/\jS (nth f.slots v.slot.toNat)=true
 pI:∀w∈f.slots,w.ty=4->w.n<=N
structure kf(p:ab):Prop where
 ok:cY p
 fn:∀j,j<p.aa.aq.length->pS p j
def GD{s:SK}(he:(gy s).2.2=0):kf (gy s).1:=⟨B7 he,RR he⟩
variable{f:aH}{N:Int}
def uR(hw:kf p)(h:dF p f)(t:jc p N f)(hb:mC p f):(∀m,yo p f.fn.toNat (oP p f.fn.toNat m) (kY p f) (cD p f))/\p8 (kY p f):=by
 have f0:=h.f0;have f1:=h.f1;have hF:=hw.fn f.fn.toNat jB;have hx:=h.pl _ (lJ hb.1);have Ua:=hx.a0;have Us:=hb.2;refine⟨fun m=>?_,IU _ _ _ t.ny (fun b e m=>by subst e;exact hF.body m) hF.env⟩;have hn:=t.ny;rw[lE hb.1]at hn;have:=DW _ _ _ _ hn (fun b e m=>by subst e;exact hF.body m) (m+1);have:=BY _ _ this f.pl.at_.toNat (by show _<(dz p f.pl.block).length;omega);have e:kY p f=nB p ((dz p f.pl.block).take f.pl.at_.toNat) (ph p (nF (nth p.aa.aq f.fn.toNat).params 0) (f.path.take (f.path.length-1))):=by unfold kY;rw[lE hb.1,sW,<-lE hb.1];rfl
 rw[e];exact this
def jc.on(h:dF p f)(t:jc p N f)(hb:mC p f)(hk:(ao p (cD p f)).kind≠10):jc p N (fN f):=by
 have Ua:=(h.pl _ (lJ hb.1)).a0;have Us:=hb.2;have e:kY p (fN f)=kY p f:=by
  have e1:kY p f=nB p ((dz p f.pl.block).take f.pl.at_.toNat) (ph p (nF (nth p.aa.aq f.fn.toNat).params 0) (f.path.take (f.path.length-1))):=by unfold kY;rw[lE hb.1,sW,<-lE hb.1];rfl
  rw[e1];unfold kY;rw[oz hb.1,sW];show nB p ((dz p f.pl.block).take (f.pl.at_+1).toNat) _=_;rw[show(f.pl.at_+1).toNat=f.pl.at_.toNat+1 from jB,xX _ _ jB,B5];exact BE hk
 refine⟨?_,by rw[e];exact t.vk,t.pI⟩;have hn:=t.ny;rw[lE hb.1,ud]at hn;rw[oz hb.1,ud];exact⟨hn.1,hn.2.1,trivial⟩
def LX{l:List α}{i:Nat}{x y:α}(h:x∈l.set i y):x=y\/x∈l:=by
 rcases List.mem_or_eq_of_mem_set h with h|h
 ·exact .inr h
 ·exact .inl h
def jc.store(hw:kf p)(h:dF p f)(t:jc p N f)(hb:mC p f)(hx:jr p (cD p f)){w:ak}(hv:oI N (nth p.types (nth (ao p (cD p f)).l 0).toNat) w):jc p N (fN { f with slots:=f.slots.set (nth p.slots (cD p f).toNat).toNat w }):=by
 have Ua:=(h.pl _ (lJ hb.1)).a0;have Us:=hb.2;have f0:=h.f0;have f1:=h.f1;obtain⟨sw,hE⟩:=uR hw h t hb;have sw:=sw 0;have hX:=h.pl _ (lJ hb.1);have hm:cD p f∈dz p f.pl.block:=er jB;obtain⟨k0,k1,k2,k3⟩:=hX.aE hw.ok f0 f1 hm;have Tr:=(hw.ok.aq f.fn.toNat jB).all (cD p f).toNat k2 (by have:=hX.hi;omega) (by unfold jr at hx;unfold iH;omega);have hfs:=h.sl;generalize hs:nth p.slots (cD p f).toNat=s at*;have YB:∀i:Int,0<=i->nth (f.slots.set s.toNat w) i.toNat=if i=s then w else nth f.slots i.toNat:=fun i hi=>by
  rw[Go.Gd.aY _ _ _ _ jB];by_cases e:i=s
  ·rw[if_pos e,jP]
  ·rw[if_neg e,jN]
 have e1:kY p f=nB p ((dz p f.pl.block).take f.pl.at_.toNat) (ph p (nF (nth p.aa.aq f.fn.toNat).params 0) (f.path.take (f.path.length-1))):=by unfold kY;rw[lE hb.1,sW,<-lE hb.1];rfl
 have e:kY p (fN { f with slots:=f.slots.set s.toNat w })=oG p (cD p f) (kY p f):=by rw[e1];unfold kY;rw[oz (f:={ f with slots:=f.slots.set s.toNat w }) hb.1,sW];show nB p ((dz p f.pl.block).take (f.pl.at_+1).toNat) _=_;rw[show(f.pl.at_+1).toNat=f.pl.at_.toNat+1 from jB,xX _ _ jB,B5];rfl
 refine⟨?_,fun v Th=>?_,fun u hu=>?_⟩
 ·have hn:=t.ny;rw[lE hb.1,ud]at hn;rw[oz (f:={ f with slots:=f.slots.set s.toNat w }) hb.1,ud];exact⟨hn.1,hn.2.1,trivial⟩
 ·rw[e]at Th;show 0<=v.slot/\v.slot<(f.slots.set s.toNat w).length/\(nth (f.slots.set s.toNat w) v.slot.toNat).ty=v.ty/\jS (nth (f.slots.set s.toNat w) v.slot.toNat)=true;rw[List.length_set];have old:∀v∈kY p f,v.slot≠s->0<=v.slot/\v.slot<f.slots.length/\(nth (f.slots.set s.toNat w) v.slot.toNat).ty=v.ty/\jS (nth (f.slots.set s.toNat w) v.slot.toNat)=true:=fun v hv Tb=>by
   obtain⟨g1,g2,g3,g4⟩:=t.vk v hv;rw[YB _ g1,if_neg Tb];exact⟨g1,g2,g3,g4⟩
  rcases hx with hx|hx
  ·unfold oG at Th;rw[if_pos (show(ao p (cD p f)).kind=10 from hx)]at Th;rcases List.mem_append.1 Th with Th|Th
   ·exact old v Th (by have:=(sw.pL hx v Th).2;rwa [hs]at this)
   ·rw[List.mem_singleton.1 Th];show 0<=nth p.slots (cD p f).toNat/\nth p.slots (cD p f).toNat<_/\(nth (f.slots.set s.toNat w) (nth p.slots (cD p f).toNat).toNat).ty=nth p.types (nth (ao p (cD p f)).l 0).toNat/\jS (nth (f.slots.set s.toNat w) (nth p.slots (cD p f).toNat).toNat)=true;rw[hs,YB _ Tr.1,if_pos rfl];exact⟨Tr.1,jB,hv.ty,hv.zU⟩
  ·rw[BE (by have hx:(ao p (cD p f)).kind=11:=hx;omega)]at Th;by_cases Tb:v.slot=s
   ·obtain⟨u,u1,u2,u3,u4⟩:=sw.set hx;have huv:u=v:=by
     obtain⟨i,hi,rfl⟩:=List.getElem_of_mem u1;obtain⟨k,hk,rfl⟩:=List.getElem_of_mem Th;rw[hs]at u3;rcases Nat.lt_trichotomy i k with ZK|ZK|ZK
     ·exact((List.pairwise_iff_getElem.1 hE i k hi hk ZK).2 (by rw[u3,Tb])).elim
     ·subst ZK;rfl
     ·exact((List.pairwise_iff_getElem.1 hE k i hk hi ZK).2 (by rw[u3,Tb])).elim
    subst huv;rw[Tb,YB _ Tr.1,if_pos rfl];exact⟨Tr.1,jB,hv.ty.trans u4.symm,hv.zU⟩
   ·exact old v Th Tb
 ·have hu:u∈f.slots.set s.toNat w:=hu;rcases LX hu with rfl|hu
  ·exact hv.pI
  ·exact t.pI u hu
def jc.aX(t:jc p N f)(Tb:f.path≠[])(hk:qn p f.pl b):jc p N { f with path:=f.path++[⟨b,0⟩] }:=by
 have e:kY p { f with path:=f.path++[⟨b,0⟩] }=kY p f:=by unfold kY;show ph p _ (f.path++[⟨b,0⟩])=_;rw[sW];rfl
 refine⟨?_,by rw[e];exact t.vk,t.pI⟩;show qN p _ (f.path++[⟨b,0⟩]);rw[ud];refine⟨t.ny,?_,trivial⟩;rw[lE Tb,Fy];exact hk
def jc.cut(t:jc p N f)(Tb:f.path≠[]):jc p N { f with path:=f.path.take (f.path.length-1) }:=by have hn:=t.ny;rw[lE Tb,ud]at hn;refine⟨hn.1,fun v hv=>t.vk v ?_,t.pI⟩;unfold kY;rw[lE Tb,sW];exact Ex _ _ hv
def jc.mono{M:Int}(t:jc p N f)(h:N<=M):jc p M f:=⟨t.ny,t.vk,fun w hw e=>by have:=t.pI w hw e;omega⟩
structure eN(p:ab)(R:RS):Prop where
 fr:∀k,k<R.nf->jc p R.heap.length (nth R.aw k)
 link:∀k,k+1<R.nf->CS p (nth R.aw k) (nth R.aw (k+1)).fn
theorem eN.aS{p:ab}{R:RS}(t:eN p R)(hok:R.nf<=R.aw.length)(h1:1<=R.nf){f:aH}(hf:jc p R.heap.length f)(US:f.fn=R.ah.fn):eN p (R.aS (R.nf-1) f):=by
 have hu:=fun k=>RS.aY (R:=R) (k:=R.nf-1) jB f k
 refine⟨fun k hk=>?_,fun k hk=>?_⟩
 ·rw[hu];split
  ·exact hf
  ·exact t.fr k hk
 ·have hk:k+1<R.nf:=hk;rw[hu,jN,hu];split
  ·rename_i e;have:=t.link k hk;rw[US,RS.ah,<-e];exact this
  ·exact t.link k hk
theorem eN.cut{p:ab}{R:RS}(t:eN p R)(hok:R.nf<=R.aw.length)(h1:1<=R.nf)(hp:R.ah.path.length≠0):eN p R.cut:=by have:=t.aS hok h1 (f:={ R.ah with path:=R.ah.path.take (R.ah.path.length-1) }) ((t.fr (R.nf-1) jB).cut fun e=>hp (by unfold RS.ah;rw[e];rfl)) rfl;exact⟨this.fr,this.link⟩
variable{R:RS}
def zD{v:ak}(h:R.nf-1<R.aw.length):(R.dK p a v).on=R.aS (R.nf-1) (fN { R.ah with slots:=R.ah.slots.set (nth p.slots a.toNat).toNat v }):=by have hn:nth (R.dK p a v).aw (R.nf-1)=_:=(RS.aY (R:=R) h _ (R.nf-1)).trans (if_pos rfl);show RS.aS _ (R.nf-1) (fN (nth (R.dK p a v).aw (R.nf-1)))=_;rw[hn];unfold RS.dK RS.aS;simp only[RS.ah,List.set_set]
theorem eN.bq{p:ab}(hw:kf p){R:RS}(hI:da p R)(t:eN p R)(h1:1<=R.nf){v:ak}(hv:(nth p.aa.aq R.ah.fn.toNat).ret≠0->oI R.heap.length (nth p.aa.aq R.ah.fn.toNat).ret v):eN p (R.bq p v):=by
 have TB:=hI.ok.nf;unfold RS.bq;split
 ·exact⟨fun k hk=>t.fr k (by have hk:k<R.nf-1:=hk;omega),fun k hk=>t.link k (by have hk:k+1<R.nf-1:=hk;omega)⟩
 rename_i h2;have hP:eN p R.pop:=⟨fun k hk=>t.fr k (by have hk:k<R.nf-1:=hk;omega),fun k hk=>t.link k (by have hk:k+1<R.nf-1:=hk;omega)⟩;have hb:=hI.busy (R.nf-1-1) jB;have hf:=hI.fr (R.nf-1-1) jB;have ht:=t.fr (R.nf-1-1) jB;have hl:=t.link (R.nf-1-1) jB;rw[show R.nf-1-1+1=R.nf-1 from jB]at hl;have hl:CS p (nth R.aw (R.nf-1-1)) R.ah.fn:=hl;have Tf:bB p R.pop.st=cD p (nth R.aw (R.nf-1-1)):=by
  unfold bB cD;have:R.pop.st.aj=nth R.aw (R.nf-1-1):=by unfold aM.aj;show nth (R.aw.take (R.nf-1)) ((R.aw.take (R.nf-1)).length-1)=_;rw[show(R.aw.take (R.nf-1)).length=R.nf-1 by simp;omega,cu _ _ _ jB]
  rw[this]
 have hpn:R.pop.nf=R.nf-1:=rfl;have hpf:R.pop.aw=R.aw:=rfl;split
 ·rename_i TK;rw[Tf]at TK;obtain⟨c1,c2,c3⟩:=hl;have YW:=((uR hw hf ht hb).1 0).call (by have:=TK;unfold jr at this;have e:(ao p (cD p (nth R.aw (R.nf-1-1)))).kind=(nth p.aa.nodes (cD p (nth R.aw (R.nf-1-1))).toNat).kind:=rfl;omega) c2;have hr:=YW.ret;rw[c3]at hr;have Uc:1<=nth p.types (nth (ao p (cD p (nth R.aw (R.nf-1-1)))).l 0).toNat:=by
   rcases TK with e|e
   ·have hm:cD p (nth R.aw (R.nf-1-1))∈dz p (nth R.aw (R.nf-1-1)).pl.block:=er (by have:=hb.2;have:=(hf.pl _ (lJ hb.1)).a0;omega);have hX:=hf.pl _ (lJ hb.1);obtain⟨k0,k1,k2,k3⟩:=hX.aE hw.ok hf.f0 hf.f1 hm;have hi:=hX.in_ hw.ok hf.f0 hf.f1;exact((hw.ok.ok.ty (cD p (nth R.aw (R.nf-1-1))).toNat (Nat.zero_le _) jB).pL e).1
   ·obtain⟨u,u1,u2,u3,u4⟩:=((uR hw hf ht hb).1 0).set e;obtain⟨_,_,g3,g4⟩:=ht.vk u u1;have:=QB g4;rw[<-u4,<-g3];exact this.1
  have Th:=hv jB;rw[<-hr]at Th;have P':=jc.store hw hf ht hb TK Th;rw[zD (R:=R.pop) (by rw[hpn,hpf];omega),Tf];exact hP.aS (by rw[hpn,hpf];omega) jB P' rfl
 ·rename_i TK;rw[Tf]at TK;exact hP.aS (by rw[hpn,hpf];omega) jB (jc.on hf ht hb fun e=>TK (.inl e)) rfl
theorem eN.settle{p:ab}(hw:kf p):∀(n:Nat) {R:RS},da p R->eN p R->eN p (js p n R)
 |0,R,_,t=>t
 |n+1,R,hI,t=>by
  unfold js;split
  ·exact t
  rename_i e;have hg:=hI.go e;split
  ·refine eN.settle hw n (hI.bq hg _).1 (t.bq hw hI hg fun hz=>?_);have hf:dF p R.ah:=hI.fr (R.nf-1) jB;have:=(hw.ok.ok.aa.fn _ (er (l:=p.aa.aq) (k:=R.ah.fn.toNat) (by have:=hf.f0;have:=hf.f1;omega))).1.ret;exact⟨rfl,xA jB,fun _=>by show(0:Int)<=_;omega⟩
  rename_i e1;split
  ·exact t
  ·exact eN.settle hw n (hI.cut hg e1).1 (t.cut hI.ok.nf hg e1)
def KM(s:SK)(a b:Int):im s a b≠4:=by
 unfold im
 (repeat' split)<;>omega
def LB(h:qe p){slots:List ak}{heap:SH}(hN:0<=N)(hl:∀w∈slots,w.ty=4->w.n<=N)(h0:0<=a)(h1:a<p.aa.nodes.length)(hn:a.toNat<n)(hk:bT (bA p.aa.nodes a)):(de p slots heap n a).1.ty=4->(de p slots heap n a).1.n<=N:=by
 intro e;have ht:=rX h slots heap n a h0 h1 hn hk;rcases ht with⟨_,t1,_⟩|⟨_,t1⟩
 rotate_left
 ·rw[t1]at e;exact absurd e jC
 rw[e]at t1;have ty:=h.ty a.toNat (Nat.zero_le _) jB;have SW:bT (nth p.aa.nodes a.toNat).kind:=hk;unfold bT at SW;have k4:(nth p.aa.nodes a.toNat).kind=4:=by
  have hc:(nth p.aa.nodes a.toNat).kind=1\/(nth p.aa.nodes a.toNat).kind=2\/(nth p.aa.nodes a.toNat).kind=3\/(nth p.aa.nodes a.toNat).kind=4\/(nth p.aa.nodes a.toNat).kind=5\/(nth p.aa.nodes a.toNat).kind=6\/(nth p.aa.nodes a.toNat).kind=7\/(nth p.aa.nodes a.toNat).kind=8\/(nth p.aa.nodes a.toNat).kind=9:=jB;rcases hc with k|k|k|k|k|k|k|k|k
  ·have:=ty.int k;omega
  ·have:=ty.bool k;omega
  ·have:=ty.text k;omega
  ·exact k
  ·have:=(ty.index k).1;omega
  ·have:=(ty.len k).1;omega
  ·have:=(ty.neg k).1;omega
  ·have:=(ty.not k).1;omega
  ·have:=(ty.zf k).1;rw[<-t1]at this;exact(KM _ _ _ this.symm).elim
 obtain⟨m,rfl⟩:∃m,n=m+1:=⟨n-1,jB⟩;have ev:de p slots heap (m+1) a=(di slots (nth p.slots a.toNat) (nth p.types a.toNat),0):=by
  conv=>lhs;unfold de
  simp only;rw[jN,jN,jN,if_pos k4]
 rw[ev]at e ⊢;have e:(di slots (nth p.slots a.toNat) (nth p.types a.toNat)).ty=4:=e;show(di slots (nth p.slots a.toNat) (nth p.types a.toNat)).n<=N;unfold di at e ⊢;split
 ·exact hN
 rename_i e1;rw[if_neg e1]at e;split
 ·rename_i e2;rw[if_pos e2]at e;exact hl _ (er jB) e
 ·exact hN
def CI(hs:cY p)(hl:∀w∈R.ah.slots,w.ty=4->w.n<=R.heap.length)(h0:0<=a)(h1:a.toNat<p.aa.nodes.length)(hk:bT (bA p.aa.nodes a))(h2:(R.val p a).2=0):oI R.heap.length (nth p.types a.toNat) (R.val p a).1:=by obtain⟨t1,t2⟩:=qY (Fj hs R h0 h1 hk) h2;exact⟨t1,t2,LB hs.ok jB hl h0 jB jB hk⟩
theorem BT{p:ab}(R:RS):∀(l:SI) (a:List ak),(R.args p l a).2=0->(R.args p l a).1=a++l.map (fun x=>(R.val p x).1)/\∀x∈l,(R.val p x).2=0
 |[],a,_=>⟨by simp[RS.args],fun x hx=>by cases hx⟩
 |x::l,a,h=>by
  unfold RS.args at h ⊢;split
  ·rename_i e;rw[if_pos e]at h;exact(e h).elim
  ·rename_i e;rw[if_neg e]at h;obtain⟨h1,h2⟩:=BT R l _ h;refine⟨by rw[h1];simp,fun y hy=>?_⟩;rcases List.mem_cons.1 hy with rfl|hy
   ·exact Classical.not_not.1 e
   ·exact h2 y hy
theorem EE:∀(l:List bQ) (i:Int) (v:bP),v∈nF l i->∃k:Nat,k<l.length/\v.slot=i+k/\v.ty=(nth l k).ty
 |[],_,v,h=>by cases h
 |x::l,i,v,h=>by
  unfold nF at h;rcases List.mem_cons.1 h with rfl|h
  ·exact⟨0,jE,by show i=i+((0:Nat):Int);omega,rfl⟩
  ·obtain⟨k,h1,h2,h3⟩:=EE l (i+1) v h;exact⟨k+1,by simpa using h1,by rw[h2];push_cast;omega,h3⟩
def s8{β:Type}[Inhabited α][Inhabited β](f:α->β)(l:List α)(k:Nat)(h:k<l.length):nth (l.map f) k=f (nth l k):=by rw[dV (by simpa using h),dV h];simp
def Gs(hs:cY p)(hk:k<p.aa.aq.length){args:List ak}(hN:0<=N)(ha:args.length=(nth p.aa.aq k).params.length)(ht:∀i,i<args.length->oI N (nth (nth p.aa.aq k).params i).ty (nth args i)):jc p N (gg p k args):=by
 have hp:=(hs.aq k hk).vz;have hz:((gg p k args).slots.length:Int)=nth p.size k:=by show((args++List.replicate _ v0).length:Int)=_;rw[Int.toNat_natCast];simp;omega
 have e:kY p (gg p k args)=nF (nth p.aa.aq k).params 0:=by show ph p (nF (nth p.aa.aq (k:Int).toNat).params 0) [⟨(nth p.aa.aq (k:Int).toNat).body,0⟩]=_;rw[Int.toNat_natCast];rfl
 refine⟨?_,fun v hv=>?_,fun w hw e=>?_⟩
 ·show qN p (fun b=>b=(nth p.aa.aq (k:Int).toNat).body) [⟨(nth p.aa.aq (k:Int).toNat).body,0⟩];exact⟨rfl,trivial⟩
 ·rw[e]at hv;obtain⟨i,h1,h2,h3⟩:=EE _ _ _ hv;have Wk:v.slot=i:=jB;have hn:nth (gg p k args).slots i=nth args i:=by
   show nth (args++List.replicate _ v0) i=_;rw[lM jB]
  rw[Wk,Int.toNat_natCast,hn,h3];have:=ht i jB;exact⟨jB,jB,this.ty,this.zU⟩
 ·have hw:w∈args++List.replicate _ v0:=hw;rcases List.mem_append.1 hw with hw|hw
  ·obtain⟨i,hi,rfl⟩:=List.getElem_of_mem hw;rw[<-dV hi]at e ⊢;exact(ht i hi).pI e
  ·rw[(List.mem_replicate.1 hw).2]at e;exact absurd e jC
theorem eN.push{p:ab}{R:RS}(t:eN p R)(UA:R.nf=R.aw.length)(h1:1<=R.nf){f:aH}(hf:jc p R.heap.length f)(hc:CS p R.ah f.fn):eN p (R.push f):=by
 have hu:∀k,k<=R.nf->nth (R.push f).aw k=if k=R.nf then f else nth R.aw k:=fun k hk=>by show nth (R.aw++[f]) k=_;rw[zO _ _ _ jB,UA]
 refine⟨fun k hk=>?_,fun k hk=>?_⟩
 ·have hk:k<R.nf+1:=hk;rw[hu k jB];split
  ·exact hf
  ·exact t.fr k jB
 ·have hk:k+1<R.nf+1:=hk;rw[hu k jB,jN,hu (k+1) jB];split
  ·rename_i e;unfold RS.ah at hc;rwa [show R.nf-1=k from jB]at hc
  ·exact t.link k jB
def bt.mF(h:bt p R):bB p R.st=cD p R.ah:=by unfold bB cD;rw[h.ma]
theorem bt.fr{p:ab}{R:RS}(h:bt p R):dF p R.ah:=h.inv.fr (R.nf-1) (by have:=h.one;omega)
theorem eN.store{p:ab}(hw:kf p){R:RS}(h:bt p R)(t:eN p R)(TK:jr p (bB p R.st)){v:ak}(hv:oI R.heap.length (nth p.types (nth (ao p (bB p R.st)).l 0).toNat) v):eN p (R.store p (bB p R.st) v):=by have h1:=h.one;have TB:=h.inv.ok.nf;unfold RS.store;rw[zD jB];rw[h.mF]at TK hv ⊢;exact t.aS TB h1 (jc.store hw h.fr (t.fr (R.nf-1) jB) h.aj TK hv) rfl
theorem eN.on{p:ab}{R:RS}(h:bt p R)(t:eN p R)(hk:(ao p (bB p R.st)).kind≠10):eN p R.on:=by have h1:=h.one;rw[h.mF]at hk;exact t.aS h.inv.ok.nf h1 (jc.on h.fr (t.fr (R.nf-1) jB) h.aj hk) rfl
theorem eN.call{p:ab}(hw:kf p){R:RS}(h:bt p R)(t:eN p R){x:Int}(hx:x=nth (ao p (bB p R.st)).l 0)(P':(ao p (bB p R.st)).kind=10\/(ao p (bB p R.st)).kind=11\/(ao p (bB p R.st)).kind=13)(h0:0<=x)(hl:x.toNat<p.aa.nodes.length)(hk:(ao p x).kind=21)(he:(R.call p x).2=0):eN p (R.call p x).1:=by
 have h1:=h.one;obtain⟨k,hc⟩:=callee hw.ok hl hk;have YW:=((uR hw h.fr (t.fr (R.nf-1) jB) h.aj).1 0).call;have Tf:=h.mF;have YW:=YW (by rw[<-Tf];exact P') (by rw[<-Tf,<-hx];exact hk);rw[<-Tf,<-hx]at YW;unfold RS.call at he ⊢;simp only at he ⊢;split at he
 ·rename_i e;exact(e he).elim
 rename_i e;rw[if_neg e];split at he
 ·exact((by decide:¬((3:Int)=0)) he).elim
 rename_i e8;rw[if_neg e8,hc.at_];obtain⟨a1,a2⟩:=BT R _ [] (Classical.not_not.1 e);rw[List.nil_append]at a1;have UY:=(hw.ok.ok.aa.shape x.toNat hl);have Ug:vF p x=k:=hc.last;refine t.push h.full h1 (Gs hw.ok hc.lt jB (by rw[a1,List.length_map];exact hc.args) fun i hi=>?_) ⟨by rw[<-Tf];exact P',by rw[<-Tf,<-hx];exact hk,by rw[<-Tf,<-hx];exact Ug⟩;rw[a1,List.length_map]at hi;have hm:=er hi;have hb:=UY.2.1 _ hm;rw[a1,s8 _ _ _ hi];have:=CI hw.ok (R:=R) (t.fr (R.nf-1) jB).pI hb.1 jB (UY.1.call hk _ hm) (a2 _ hm);have Uc:=YW.args i hi;rw[Ug,Int.toNat_natCast]at Uc;rwa [Uc]at this
theorem eN.with{p:ab}{R:RS}(t:eN p R){hp:SH}(h:R.heap.length<=hp.length)(i:Int)(o:List SK):eN p { R with heap:=hp,in_:=i,aC:=o }:=⟨fun k hk=>(t.fr k hk).mono (by show(R.heap.length:Int)<=(hp.length:Int);omega),t.link⟩
theorem eN.bO{p:ab}(hw:kf p){R:RS}(h:bt p R)(t:eN p R){inp:SI}(hn:inp.length<=1000)(Wy:¬kn p R.st (bB p R.st) inp)(he:(R.bO p (bB p R.st) inp).2=0):eN p (R.bO p (bB p R.st) inp).1:=by
 have hs:=hw.ok;obtain⟨s0,s1,s2,_⟩:=h.stmt hs;have sh:=(hs.ok.aa.shape _ s1);have h1:=h.one;have TB:=h.inv.ok.nf;have tf:=t.fr (R.nf-1) jB;have Tf:=h.mF;have aE:∀i,i<(ao p (bB p R.st)).l.length->0<=nth (ao p (bB p R.st)).l i/\(nth (ao p (bB p R.st)).l i).toNat<p.aa.nodes.length:=fun i hi=>by have:=sh.2.1 _ (er (l:=(ao p (bB p R.st)).l) hi);omega
 have hsw:=((uR hw h.fr tf h.aj).1 0);rw[<-Tf]at hsw;have Vf:=h.fr.pl _ (lJ h.aj.1);have Ua:=Vf.a0;have Us:=h.aj.2;have kidB:∀(x:bk),x.block=R.ah.pl.block->(x.at_=R.ah.pl.at_\/x.at_=R.ah.pl.at_+1)->(ao p (bB p R.st)).kind=15\/(ao p (bB p R.st)).kind=16->∀b,b∈(ao p (bB p R.st)).l.drop 1->qn p x b:=fun x UD YC hk b hb=>by rw[Tf]at hk hb;exact⟨R.ah.pl.at_.toNat,jB,by rw[UD];omega,by rw[UD];exact hk,by rw[UD];exact hb⟩
 have Ww:(ao p (bB p R.st)).kind=16->∀b,b∈(ao p (bB p R.st)).l.drop 1->eN p (R.aX b):=fun hk b hb=> t.aS TB h1 (tf.aX h.aj.1 (kidB _ rfl (.inl rfl) (.inr hk) b hb)) rfl
 have hod:(ao p (bB p R.st)).kind=15->∀b,b∈(ao p (bB p R.st)).l.drop 1->eN p (R.on.aX b):=fun hk b hb=>by
  have UB:=t.on h jB;have Tb:(fN R.ah).path≠[]:=by rw[oz h.aj.1];simp
  have Vf:(fN R.ah).pl=⟨R.ah.pl.block,R.ah.pl.at_+1⟩:=by
   unfold aH.pl;have hl:R.ah.path.length≠0:=fun e=>h.aj.1 (List.length_eq_zero_iff.1 e)
   have e:(fN R.ah).path.length=R.ah.path.length:=by show(List.set _ _ _).length=_;simp
   rw[e];show nth (R.ah.path.set (R.ah.path.length-1) _) (R.ah.path.length-1)=_;rw[Go.Gd.aY _ _ _ _ jB,if_pos rfl]
  have T4:R.on.ah=fN R.ah:=RS.gu h.inv.ok h1 _;have tf2:=jc.on h.fr tf h.aj (by rw[<-Tf];omega);refine UB.aS (by show R.nf<=(R.aw.set _ _).length;simpa using TB) h1 ?_ rfl;rw[T4];exact tf2.aX Tb (kidB _ (by rw[Vf]) (.inr (by rw[Vf])) (.inl hk) b hb)
 unfold RS.bO at he ⊢;simp only at he ⊢;split at he
 ·rename_i e;rw[if_pos e];obtain⟨a,ha,hr⟩:=sh.1.right e;have S6:(ao p (bB p R.st)).l=[a]:=ha;have hx:nth (ao p (bB p R.st)).l 0=a:=by rw[S6];rfl
  have Ua:=aE 0 (by rw[S6];simp);rw[hx]at Ua;have Uc:=hs.ok.ty a.toNat (Nat.zero_le _) Ua.2;unfold RS.right at he ⊢;simp only[hx]at he ⊢;split at he
  ·rename_i e1;rw[if_pos e1];exact t.call hw h hx.symm jB Ua.1 Ua.2 e1 he
  rename_i e1;rw[if_neg e1];split at he
  ·rename_i e2;rw[if_pos e2];have TP:¬((inp.length:Int)<=R.in_):=fun Ta=>Wy ⟨e,by rw[hx];exact e2,Ta⟩
   have hd:bt p { R with in_:=R.in_+1 }:=h.with (hp:=R.heap) (i:=R.in_+1) (o:=R.aC) h.cells ⟨by have:=h.gV;omega,jB⟩ h.outs
   have tw:=t.with (hp:=R.heap) jl (R.in_+1) R.aC
   exact tw.store hw hd e ⟨by show(1:Int)=nth p.types (nth (ao p (bB p R.st)).l 0).toNat;rw[hx];exact(Uc.in_ e2).symm,rfl,fun h4=>absurd h4 (by show¬((1:Int)=4);decide)⟩
  rename_i e2;rw[if_neg e2];split at he
  ·rename_i e3;rw[if_pos e3];split at he
   ·rename_i e4;rw[if_pos e4];have hd:=h.fresh a e4;have tw:eN p (R.fresh p a).1/\oI (R.fresh p a).1.heap.length 4 (R.fresh p a).2.1/\(R.fresh p a).1.st.ap=R.st.ap:=by
     unfold RS.fresh at e4 ⊢;simp only at e4 ⊢;split at e4
     ·rename_i e5;exact(e5 e4).elim
     rename_i e5;rw[if_neg e5];split at e4
     ·exact((by decide:¬((7:Int)=0)) e4).elim
     rename_i e6;rw[if_neg e6];split at e4
     ·exact((by decide:¬((4:Int)=0)) e4).elim
     rename_i e7;rw[if_neg e7];refine⟨t.with (hp:=R.heap++[List.replicate _ 0]) jE R.in_ R.aC,⟨rfl,?_,fun _=>by show((R.heap.length:Int)+1)<=((R.heap++[List.replicate _ 0]).length:Int);simp⟩,rfl⟩;have h0:(0:Int)<=R.heap.length+1:=jB;unfold jS;rw[if_neg (by show¬((4:Int)=1);decide),if_neg (by show¬((4:Int)=2);decide),if_neg (by show¬((4:Int)=3);decide),if_pos rfl];rw[decide_eq_true (show(⟨4,(R.heap.length:Int)+1,sE⟩:ak).s=sE from rfl),decide_eq_true (show 0<=(⟨4,(R.heap.length:Int)+1,sE⟩:ak).n from h0)];rfl
    obtain⟨t1,t2,t3⟩:=tw;have YD:bB p (R.fresh p a).1.st=bB p R.st:=by unfold bB aM.aj;rw[t3]
    have:=t1.store hw hd (by rw[YD];exact e) (v:=(R.fresh p a).2.1) (by rw[YD,hx,Uc.new e3];exact t2);rw[YD]at this;exact this
   ·rename_i e4;exact(e4 he).elim
  rename_i e3;rw[if_neg e3];split at he
  ·rename_i e4;rw[if_pos e4];have hE:bT (bA p.aa.nodes a):=by
    rcases hr with hr|hr|hr|hr
    ·exact hr
    ·exact(e2 hr).elim
    ·exact(e3 hr).elim
    ·exact(e1 hr).elim
   exact t.store hw h e (by rw[hx];exact CI hs tf.pI Ua.1 Ua.2 hE e4)
  ·rename_i e4;exact(e4 he).elim
 rename_i e;rw[if_neg e];have XH:(ao p (bB p R.st)).kind≠10:=fun h=>e (.inl h)
 split at he
 ·rename_i e1;rw[if_pos e1];obtain⟨a,ha,hr⟩:=sh.1.nN e1;have S6:(ao p (bB p R.st)).l=[a]:=ha;have Ua:=aE 0 (by rw[S6];simp);have hx:nth (ao p (bB p R.st)).l 0=a:=by rw[S6];rfl
  rw[hx]at Ua he ⊢;exact t.call hw h hx.symm jB Ua.1 Ua.2 hr he
 rename_i e1;rw[if_neg e1];split at he
 ·rename_i e2;rw[if_pos e2];unfold RS.put at he ⊢;simp only at he ⊢;split at he
  ·rename_i e3;exact(e3 he).elim
  rename_i e3;rw[if_neg e3];split at he
  ·rename_i e4;exact(e4 he).elim
  rename_i e4;rw[if_neg e4];split at he
  ·exact((by decide:¬((2:Int)=0)) he).elim
  rename_i e5;rw[if_neg e5];have hg:(gU R.heap (di R.ah.slots (nth p.slots (bB p R.st).toNat) 4)).length≠0:=jB;generalize hv:di R.ah.slots (nth p.slots (bB p R.st).toNat) 4=v at*;unfold gU at hg;split at hg
  ·simp at hg
  rename_i e6;have hd:=h.with (hp:=R.heap.set (v.n-1).toNat ((nth R.heap (v.n-1).toNat).set (R.val p (nth (ao p (bB p R.st)).l 0)).1.n.toNat (R.val p (nth (ao p (bB p R.st)).l 1)).1.n)) (i:=R.in_) (o:=R.aC) (by rw[Cq _ _ _ jB jE];exact h.cells) ⟨h.gV,h.hZ⟩ h.outs
  exact(t.with jE R.in_ R.aC).on hd XH
 rename_i e2;rw[if_neg e2];split at he
 ·rename_i e3;rw[if_pos e3];have ZL:=hsw.ret e3;have hf1:=h.fr.f1;have YN:=h.fr.f0;split at he
  ·rename_i e4;rw[if_pos e4];exact t.bq hw h.inv h1 fun hz=>(hz (ZL.2 jB)).elim
  rename_i e4;rw[if_neg e4];split at he
  ·rename_i e5;exact(e5 he).elim
  rename_i e5;rw[if_neg e5];refine t.bq hw h.inv h1 fun hz=>?_
  rcases sh.1.ret e3 with hl|⟨x,hl,S4⟩
  ·have hl:(ao p (bB p R.st)).l=[]:=hl;rw[hl]at e4;exact(e4 rfl).elim
  ·have hl:(ao p (bB p R.st)).l=[x]:=hl;have hx:nth (ao p (bB p R.st)).l 0=x:=by rw[hl];rfl
   have SZ:=aE 0 (by rw[hl];simp);have Uc:=ZL.1 (by rw[hl];rfl);rw[<-Uc];rw[hx]at SZ e5 ⊢;exact CI hs tf.pI SZ.1 SZ.2 S4 (Classical.not_not.1 e5)
 rename_i e3;rw[if_neg e3];split at he
 ·rename_i e4;exact(e4 he).elim
 rename_i e4;rw[if_neg e4];split at he
 ·rename_i e5;rw[if_pos e5];split at he
  ·exact((by decide:¬((5:Int)=0)) he).elim
  rename_i e6;rw[if_neg e6];have hd:=h.with (hp:=R.heap) (i:=R.in_) (o:=R.aC++[iN (R.val p (nth (ao p (bB p R.st)).l 0)).1]) h.cells ⟨h.gV,h.hZ⟩ jF
  exact(t.with jl R.in_ _).on hd XH
 rename_i e5;rw[if_neg e5];split at he
 ·rename_i e6;rw[if_pos e6];obtain⟨a,b,h1,h2,hl⟩:=sh.1.kI e6;split
  ·refine hod e6 _ ?_;rcases hl with hl|⟨d,hl,_⟩<;>(unfold ao;rw[hl];simp[nth])
  split
  ·rename_i e8;rcases hl with hl|⟨d,hl,hd⟩
   ·exfalso;unfold ao at e8;rw[hl]at e8;simp at e8
   ·refine hod e6 _ ?_;unfold ao;rw[hl];simp[nth]
  ·exact t.on h XH
 rename_i e6;rw[if_neg e6];split at he
 ·rename_i e7;rw[if_pos e7];obtain⟨a,b,hl,h1,h2⟩:=sh.1.dS e7;split
  ·refine Ww e7 _ ?_;unfold ao;rw[hl];simp[nth]
  ·exact t.on h XH
 ·rename_i e7;exfalso;have:eo (ao p (bB p R.st)).kind:=s2;unfold eo at this;omega
theorem eN.st{p:ab}{R:RS}(hok:R.nf<=R.aw.length)(t:eN p R):eN p (RS.of R.st):=by
 have hl:(RS.of R.st).nf=R.nf:=by show(R.aw.take R.nf).length=_;simp;omega
 have U':∀k,k<R.nf->nth (RS.of R.st).aw k=nth R.aw k:=fun k hk=>cu _ _ _ hk
 refine⟨fun k hk=>?_,fun k hk=>?_⟩
 ·rw[hl]at hk;rw[U' k hk];exact t.fr k hk
 ·rw[hl]at hk;rw[U' k jB,U' (k+1) hk];exact t.link k hk
def Rp(hw:kf p){s:aM}(hI:cC p s)(t:eN p (RS.of s))(hn:inp.length<=1000):eN p (RS.of (gN p s inp)):=by
 unfold gN;split
 ·exact t
 rename_i h0;have h2:¬(s.status=2\/s.status=3):=fun hh=>h0 (by unfold dG;rw[if_pos hh];decide)
 split
 ·exact⟨t.fr,t.link⟩
 rename_i Wy;simp only;split
 ·exact⟨t.fr,t.link⟩
 ·rename_i he;have hd:=hI.gW (fun hh=>h2 (.inl hh)) 0 jC;have Tf:bB p (RS.of { s with status:=0 }).st=dG p s:=by rw[RS.fv];unfold dG;rw[if_neg h2];rfl
  have P':(RS.of { s with status:=0 }).st={ s with status:=0 }:=RS.fv _;have hA:=hd.bO hw.ok hn (by rw[Tf,P'];exact Wy) (by rw[Tf];exact Classical.not_not.1 he);have hT:=eN.bO hw hd (R:=RS.of { s with status:=0 }) ⟨t.fr,t.link⟩ hn (by rw[Tf,P'];exact Wy) (by rw[Tf];exact Classical.not_not.1 he);rw[Tf]at hA hT;generalize (RS.of { s with status:=0 }).bO p (dG p s) inp=X at*;have hX:eN p { X.1 with time:=s.time+1 }:=⟨hT.fr,hT.link⟩;have YV:da p { X.1 with time:=s.time+1 }:=⟨⟨hA.inv.ok.nf,hA.inv.ok.jp⟩,hA.inv.aw,hA.inv.fr,hA.inv.busy,hA.inv.go⟩;exact eN.st (qL _ _ YV (Nat.lt_succ_self _)).1.ok.nf (eN.settle hw _ YV hX)
def EG(hw:kf p):eN p (gS p):=by
 obtain⟨m,hm,Vl,_,VB⟩:=xP hw.ok;refine⟨fun k hk=>?_,fun k hk=>?_⟩
 ·have hk:k<1:=hk;have:k=0:=jB;subst this;show jc p (([]:SH).length:Int) (gg p (kD p) []);rw[Vl];exact Gs hw.ok hm jE (by rw[VB];rfl) fun i hi=>by simp at hi
 ·have hk:k+1<1:=hk;omega
def zi(hk:(ao p a).kind=15\/(ao p a).kind=16):gX p (n+1) a k=iI 1 a::p9 p n (fun b f=>bz (gX p n) f (ao p b).l []) a (k+1):=by
 conv=>lhs;unfold gX
 simp only;rw[jN,jN,jN,jN,jN]
variable{bl:Int->Int->List av}{k:Int}
def BL(hk:(ao p a).kind=16):p9 p n bl a k=aV p n (nth (ao p a).l 0) k++[iI 17 (k+(aV p n (nth (ao p a).l 0) k).length+1+((bl (nth (ao p a).l 1) (k+(aV p n (nth (ao p a).l 0) k).length+1)).length+1))]++(bl (nth (ao p a).l 1) (k+(aV p n (nth (ao p a).l 0) k).length+1)++[iI 16 (k-1)]):=by unfold p9;simp only;rw[if_pos hk]
def zV(hk:(ao p a).kind=15)(hl:(ao p a).l.length=3):p9 p n bl a k=aV p n (nth (ao p a).l 0) k++[iI 17 (k+(aV p n (nth (ao p a).l 0) k).length+1+((bl (nth (ao p a).l 1) (k+(aV p n (nth (ao p a).l 0) k).length+1)).length+1))]++(bl (nth (ao p a).l 1) (k+(aV p n (nth (ao p a).l 0) k).length+1)++[iI 16 (k+(aV p n (nth (ao p a).l 0) k).length+1+(bl (nth (ao p a).l 1) (k+(aV p n (nth (ao p a).l 0) k).length+1)).length+1+(bl (nth (ao p a).l 2) (k+(aV p n (nth (ao p a).l 0) k).length+1+(bl (nth (ao p a).l 1) (k+(aV p n (nth (ao p a).l 0) k).length+1)).length+1)).length)])++bl (nth (ao p a).l 2) (k+(aV p n (nth (ao p a).l 0) k).length+1+(bl (nth (ao p a).l 1) (k+(aV p n (nth (ao p a).l 0) k).length+1)).length+1):=by unfold p9;simp only;rw[jN,if_pos hl]
def Dj(hk:(ao p a).kind=15)(hl:(ao p a).l.length≠3):p9 p n bl a k=aV p n (nth (ao p a).l 0) k++[iI 17 (k+(aV p n (nth (ao p a).l 0) k).length+1+(bl (nth (ao p a).l 1) (k+(aV p n (nth (ao p a).l 0) k).length+1)).length)]++bl (nth (ao p a).l 1) (k+(aV p n (nth (ao p a).l 0) k).length+1):=by unfold p9;simp only;rw[jN,if_neg hl]
def yC(hs:cY p)(ha:a.toNat<p.aa.nodes.length)(hb:b∈(ao p a).l):0<=b/\b.toNat<a.toNat:=(hs.ok.aa.shape a.toNat ha).2.1 b hb
variable{k:Nat}
def Gp(hs:cY p){x:bk}{kb:Nat}(hx:x.block.toNat<p.aa.nodes.length)(XU:bA p.aa.nodes x.block=18)(SX:x.block.toNat<n+1)(hl:bR C.ins k (lb p (n+1) k x.block))(hk:wy p n x k b kb) :
  bR C.ins kb (lb p n kb b)/\b.toNat<n/\b.toNat<p.aa.nodes.length/\bA p.aa.nodes b=18/\0<=b/\
  (kb+(lb p n kb b).length=cf p (n+1) k x.block x.at_.toNat\/(kb+(lb p n kb b).length<C.ins.length/\nth C.ins (kb+(lb p n kb b).length)=iI 16 (cf p (n+1) k x.block x.at_.toNat:Int))):=by
 obtain⟨i,hi,hk⟩:=hk;have P':=er hi;obtain⟨s0,s1⟩:=yC hs hx (b:=nth (dz p x.block) i) P';have Tr:(nth (dz p x.block) i).toNat<p.aa.nodes.length:=jB;have TV:=z7 hl hi;have T6:=DJ (gX p (n+1)) k (dz p x.block) i hi;have sh:=(hs.ok.aa.shape _ Tr).1;unfold cf at hk ⊢;generalize WR:nD (gX p (n+1)) k (dz p x.block) i=ks at*;generalize hstm:nth (dz p x.block) i=st at*;have Ws:∀(u:Int) (v:Nat),bz (gX p n) ((v:Nat):Int) (ao p u).l []=lb p n v u:=fun u v=>rfl
 rcases hk with⟨k16,ha,hb,Z8⟩|hk
 ·obtain⟨w1,w2,Uj,XL,ZM⟩:=sh.dS k16;have Uj:(ao p st).l=[w1,w2]:=Uj;have e1:nth (ao p st).l 1=w2:=by rw[Uj];rfl
  rw[e1]at hb;subst hb;obtain⟨b0,b1⟩:=yC hs Tr (b:=b) (by rw[Uj];simp);rw[zi (.inr k16),BL k16,e1]at TV;have Vr:=TV.head.2.2;rw[show((ks:Int)+1)=((ks+1:Nat):Int) by push_cast;rfl]at Vr;generalize aV p n (nth (ao p st).l 0) ((ks+1:Nat):Int)=X at*;have ekb:(((ks+1:Nat):Int)+(X.length:Int)+1)=((kb:Nat):Int):=jB;rw[ekb,Ws]at Vr;have h3:=Vr.app.2;rw[List.length_append,List.length_singleton,show ks+1+(X.length+1)=kb from jB]at h3;refine⟨h3.last.1,jB,jB,ZM,b0,.inr ⟨h3.last.2.1,?_⟩⟩;rw[h3.last.2.2,ha,Int.toNat_natCast,WR];congr 1;omega
 rcases hk with⟨k15,ha,hb,Z8⟩|⟨k15,ha,VX,hb,k1,Te,Z8⟩
 ·obtain⟨w1,w2,XL,ZM,Uj⟩:=sh.kI k15;have e1:nth (ao p st).l 1=w2:=by
   rcases Uj with Uj|⟨d,Uj,_⟩<;>(have Uj:(ao p st).l=_:=Uj;rw[Uj];rfl)
  rw[e1]at hb;subst hb;obtain⟨b0,b1⟩:=yC hs Tr (b:=b) (by rcases Uj with Uj|⟨d,Uj,_⟩<;>(have Uj:(ao p st).l=_:=Uj;rw[Uj];simp));have Tf:x.at_.toNat=i+1:=jB;by_cases VX:(ao p st).l.length=3
  ·rw[zi (.inl k15),zV k15 VX,e1]at TV T6;have Vr:=TV.head.2.2;rw[show((ks:Int)+1)=((ks+1:Nat):Int) by push_cast;rfl]at Vr T6;generalize aV p n (nth (ao p st).l 0) ((ks+1:Nat):Int)=X at*;have ekb:(((ks+1:Nat):Int)+(X.length:Int)+1)=((kb:Nat):Int):=jB;rw[ekb,Ws]at Vr T6;have h3:=Vr.app.1.app.2;rw[List.length_append,List.length_singleton,show ks+1+(X.length+1)=kb from jB]at h3;refine⟨h3.last.1,jB,jB,ZM,b0,.inr ⟨h3.last.2.1,?_⟩⟩;rw[h3.last.2.2,Tf,T6];simp only[List.length_cons,List.length_append,List.length_nil];congr 1;push_cast;omega
  ·rw[zi (.inl k15),Dj k15 VX,e1]at TV T6;have Vr:=TV.head.2.2;rw[show((ks:Int)+1)=((ks+1:Nat):Int) by push_cast;rfl]at Vr T6;generalize aV p n (nth (ao p st).l 0) ((ks+1:Nat):Int)=X at*;have ekb:(((ks+1:Nat):Int)+(X.length:Int)+1)=((kb:Nat):Int):=jB;rw[ekb,Ws]at Vr T6;have h3:=Vr.app.2;rw[List.length_append,List.length_singleton,show ks+1+(X.length+1)=kb from jB]at h3;refine⟨h3,jB,jB,ZM,b0,.inl ?_⟩;rw[Tf,T6];simp only[List.length_cons,List.length_append,List.length_nil];omega
 ·obtain⟨w1,w2,XL,ZM,Uj⟩:=sh.kI k15;rcases Uj with Uj|⟨d,Uj,hd⟩
  ·have Uj:(ao p st).l=_:=Uj;rw[Uj]at VX;cases VX
  have Uj:(ao p st).l=[w1,w2,d]:=Uj;have e2:nth (ao p st).l 2=d:=by rw[Uj];rfl
  rw[e2]at hb;subst hb;obtain⟨b0,b1⟩:=yC hs Tr (b:=b) (by rw[Uj];simp);have Tf:x.at_.toNat=i+1:=jB;rw[zi (.inl k15),zV k15 VX,e2]at TV T6;have Vr:=TV.head.2.2;rw[show((ks:Int)+1)=((ks+1:Nat):Int) by push_cast;rfl]at Vr T6;generalize aV p n (nth (ao p st).l 0) ((ks+1:Nat):Int)=X at*;have ek1:(((ks+1:Nat):Int)+(X.length:Int)+1)=((k1:Nat):Int):=jB;rw[ek1,Ws (nth (ao p st).l 1) k1]at Vr T6;have ekb:(((k1:Nat):Int)+((lb p n k1 (nth (ao p st).l 1)).length:Int)+1)=((kb:Nat):Int):=jB;rw[ekb,Ws]at Vr T6;have h3:=Vr.app.2;rw[show ks+1+(X++[iI 17 (((k1:Nat):Int)+(((lb p n k1 (nth (ao p st).l 1)).length:Int)+1))]++(lb p n k1 (nth (ao p st).l 1)++[iI 16 (((kb:Nat):Int)+((lb p n kb b).length:Int))])).length=kb by simp only[List.length_append,List.length_singleton];omega]at h3;refine⟨h3,jB,jB,hd,b0,.inl ?_⟩;rw[Tf,T6];simp only[List.length_cons,List.length_append,List.length_nil];omega
def yM(hs:cY p)(hC:dB p C){fn:Int}(f0:0<=fn)(f1:fn<p.aa.aq.length){P:List bk}(h:db p C fn P n k):∀(Q:List bk) (x:bk),P=Q++[x]->bR C.ins k (lb p n k x.block)/\x.block.toNat<n/\x.block.toNat<p.aa.nodes.length/\bA p.aa.nodes x.block=18:=by
 induction h with
 |base y k hb hk=>
  intro Q x e;obtain⟨rfl,rfl⟩:Q=[]/\y=x:=by
   cases Q with
   |nil=>exact⟨rfl,by simpa using e⟩
   |cons q Q=>simp at e
  have hj:fn.toNat<p.aa.aq.length:=jB;have Uh:=pw hs.ok.aa hj;obtain⟨k',e1,e2⟩:=hC.at_ fn.toNat hj;have:k'=k:=by rw[hk]at e1;omega
  subst this;rw[hb];exact⟨e2.app.1,by have:=Uh.1;have:=Uh.2;show _<p.aa.nodes.length;omega,by have:=Uh.1;have:=Uh.2;omega,hs.ok.aa.body _ (er hj)⟩
 |deep P x y n k kb h hk ih=>
  intro Q z e;obtain⟨rfl,rfl⟩:P++[x]=Q/\y=z:=by have:=List.append_inj' e rfl;exact⟨this.1,by simpa using this.2⟩
  obtain⟨i1,i2,i3,i4⟩:=ih P x rfl;obtain⟨k1,k2,k3,k4,_⟩:=Gp hs i3 i4 i2 i1 hk;exact⟨k1,k2,k3,k4⟩
def fG(m m':MV):Prop:=m'.bp=m.bp/\m'.time=m.time
def fG.refl(m:MV):fG m m:=⟨rfl,rfl⟩
theorem fG.trans{a b c:MV}(h:fG a b)(k:fG b c):fG a c:=⟨k.1.trans h.1,k.2.trans h.2⟩
def PU(hs:cY p)(hC:dB p C){c:MC}(h1:1<=M.calls.length)(h8:M.calls.length<=8)(P':M.status=0)(f0:0<=f.fn)(f1:f.fn<p.aa.aq.length)(Tb:f.path≠[])(Tf:f.pl.at_.toNat=(dz p f.pl.block).length)(t:mf p C f c) :
  ∃c',aW p C inp (M.aS c) (M.aS c')/\mf p C { f with path:=f.path.take (f.path.length-1) } c':=by
 obtain⟨n,k,hS,Tk⟩:=t.pos Tb;have hp:=lE Tb;generalize hQ:f.path.take (f.path.length-1)=Q at*;have Yo:cf p n k f.pl.block f.pl.at_.toNat=k+(lb p n k f.pl.block).length:=by unfold cf;rw[Tf];exact Le _ _ _
 rw[Yo]at Tk;rw[hp]at hS;generalize hy:f.pl=y at*;have hS2:∀P n k,db p C f.fn P n k->P=Q++[y]->c.at_=((k+(lb p n k y.block).length:Nat):Int)->∃c',aW p C inp (M.aS c) (M.aS c')/\mf p C { f with path:=Q } c':=fun P n k h e Tk=>by
  cases h with
  |base z k hb hk=>
   obtain⟨rfl,rfl⟩:Q=[]/\z=y:=by
    cases Q with
    |nil=>exact⟨rfl,by simpa using e⟩
    |cons q Q=>simp at e
   refine⟨c,aW.refl _,⟨t.fn,t.slots,t.stack,fun h=>(h rfl).elim,fun _=>⟨_,⟨k,hk,rfl⟩,?_⟩⟩⟩;rw[Tk,hb]
  |deep P x z n k0 _ h hk=>
   obtain⟨rfl,rfl⟩:P++[x]=Q/\z=y:=by have:=List.append_inj' e rfl;exact⟨this.1,by simpa using this.2⟩
   obtain⟨l1,l2,l3,l4⟩:=yM hs hC f0 f1 h P x rfl;obtain⟨k1,k2,k3,k4,k5,k6⟩:=Gp hs l3 l4 l2 l1 hk;have Vf:∀d:MC,d.fn=c.fn->d.slots=c.slots->d.stack=c.stack->d.at_=(cf p (n+1) k0 x.block x.at_.toNat:Int)->mf p C { f with path:=P++[x] } d:=fun d e1 e2 e3 e4=>by
    have hpx:aH.pl { f with path:=P++[x] }=x:=by unfold aH.pl;show nth (P++[x]) ((P++[x]).length-1)=x;rw[List.length_append,List.length_singleton,Nat.add_sub_cancel];exact mn _ _
    exact⟨e1.trans t.fn,e2.trans t.slots,e3.trans t.stack,fun _=>⟨n+1,k0,h,by rw[hpx];exact e4⟩,fun h=>by simp at h⟩
   rcases k6 with k6|⟨k6,k7⟩
   ·exact⟨c,aW.refl _,Vf c rfl rfl rfl (by rw[Tk,k6])⟩
   ·refine⟨{ c with at_:=(cf p (n+1) k0 x.block x.at_.toNat:Int) },?_,Vf _ rfl rfl rfl rfl⟩;refine aW.ins h1 h8 P' Tk k6 k7 (fun h=>by cases h) (cX.pQ h1 h8 Tk k6 k7 (fun h=>by rcases h with h|h|h|h|h|h|h|h|h|h|h|h<;>cases h) (fun h=>by rcases h with h|h<;>cases h) (fun h=>by rcases h with h|h|h|h<;>cases h) (fun h=>by rcases h with h|h|h<;>cases h) (fun h=>by cases h) (fun h=>by cases h) ⟨by show(1:Int)<=16;decide,by show(16:Int)<=23;decide⟩ (fun h=>by cases h) (by rw[t.stack];intro v hv;cases hv) (by rw[t.stack];simp)) ?_;rw[MV.pD,MV.bc h1,MV.dm];exact aW.refl _
 exact hS2 _ _ _ hS rfl Tk
variable{m:MV}
def MV.nU(h:2<=m.calls.length):m.pop.aj=nth m.calls (m.calls.length-1-1):=by show nth (m.calls.take (m.calls.length-1)) ((m.calls.take (m.calls.length-1)).length-1)=_;rw[List.length_take,show min (m.calls.length-1) m.calls.length=m.calls.length-1 from jB,cu _ _ _ jB]
def BZ(hw:kf p)(hI:da p R)(t:eN p R)(h1:1<=R.nf)(D':m.calls.length=R.nf)(T5:∀k,k+1<R.nf->rA p C (nth R.aw k) (nth m.calls k))(hh:m.heap=R.heap)(TP:m.in_=R.in_)(hou:m.aC=R.aC)(P':m.status=0)(hR:R.status=0)(v:ak)(hv:v.s.size<=40) :
  ∃m',aW p C inp (m.ends v) m'/\iY p C (R.bq p v) m'/\fG m m'/\(m'.status=0\/(R.bq p v).status=2):=by
 have TB:=hI.ok.nf;have h8:=hI.aw;unfold MV.ends RS.bq;by_cases h2:R.nf<=1
 ·rw[jP,if_pos h2];refine⟨_,aW.refl _,⟨?_,fun h=>?_,fun k hk=>?_,hh,TP,hou,rfl⟩,⟨rfl,rfl⟩,.inr rfl⟩
  ·show(m.calls.take (m.calls.length-1)).length=R.nf-1;simp;omega
  ·have h:1<=R.nf-1:=h;omega
  ·have hk:k+1<R.nf-1:=hk;omega
 rw[jN,if_neg h2];have TA:=T5 (R.nf-1-1) jB;have hb:=hI.busy (R.nf-1-1) jB;have hf:=hI.fr (R.nf-1-1) jB;have ht:=t.fr (R.nf-1-1) jB;have hlk:=t.link (R.nf-1-1) jB;have Tf:bB p R.pop.st=cD p (nth R.aw (R.nf-1-1)):=by
  unfold bB cD;have:R.pop.st.aj=nth R.aw (R.nf-1-1):=by unfold aM.aj;show nth (R.aw.take (R.nf-1)) ((R.aw.take (R.nf-1)).length-1)=_;rw[show(R.aw.take (R.nf-1)).length=R.nf-1 by simp;omega,cu _ _ _ jB]
  rw[this]
 rw[Tf];have WK:m.pop.aj=nth m.calls (R.nf-1-1):=by rw[MV.nU jB,D']
 have Vf:m.pop.calls.length=R.nf-1:=by show(m.calls.take (m.calls.length-1)).length=_;simp;omega
 have hpk:∀k,k<R.nf-1->nth m.pop.calls k=nth m.calls k:=fun k hk=>cu _ _ _ jB
 generalize WW:nth R.aw (R.nf-1-1)=f at*;generalize TD:nth m.calls (R.nf-1-1)=c at*;obtain⟨n,k,hS,Wl,YE,Ua,ha1⟩:=TA.pos;have hX:=hf.pl _ (lJ hb.1);have hX0:=hX.a0;have Us:=hb.2;have ZN:m.pop.push v=m.pop.aS { c with stack:=[v],bw:=c.bw-1 }:=by unfold MV.push;rw[WK];unfold MC.push;rw[TA.stack];rfl
 rw[ZN];have TW:1<=m.pop.calls.length:=jB;have hp8:m.pop.calls.length<=8:=jB
 -- how it stands then
 have fin:∀(g:aH) (d:MC),g.fn=f.fn->g.path=f.path->d.fn=c.fn->d.slots=g.slots->d.stack=[]->d.at_=c.at_+1->∀R':RS,R'=R.pop.aS (R.nf-1-1) (fN g)->iY p C R' (m.pop.aS d):=fun g d e1 e2 e3 e4 e5 e6 R' eR=>by
  subst eR;have hu:=fun k=>RS.aY (R:=R.pop) (k:=R.nf-1-1) (by show R.nf-1-1<R.aw.length;omega) (fN g) k
  have Wa:g.path≠[]:=by rw[e2];exact hb.1
  have W9:g.pl=f.pl:=by unfold aH.pl;rw[e2]
  have UL:(fN g).pl=⟨f.pl.block,f.pl.at_+1⟩:=by have:(fN g).path=g.path.take (g.path.length-1)++[⟨g.pl.block,g.pl.at_+1⟩]:=oz Wa;unfold aH.pl at*;rw[this,List.length_append,List.length_singleton,Nat.add_sub_cancel,mn,W9]
  refine⟨by rw[MV.aO,Vf];rfl,fun _=>?_,fun k hk=>?_,hh,TP,hou,by show m.status=R.status;omega⟩
  ·have T4:RS.ah (R.pop.aS (R.nf-1-1) (fN g))=fN g:=(hu (R.nf-1-1)).trans (if_pos rfl);rw[T4,MV.bc TW];refine⟨e3.trans (TA.fn.trans e1.symm),e4,e5,fun _=>⟨n,k,?_,?_⟩,fun h=>?_⟩
   ·rw[oz Wa,W9,e2];show db p C g.fn _ n k;rw[e1];exact Co hS _ _ _ (lE hb.1) rfl
   ·rw[e6,YE,UL];show(cf p n k f.pl.block (f.pl.at_.toNat+1):Int)=(cf p n k f.pl.block (f.pl.at_+1).toNat:Int);rw[show(f.pl.at_+1).toNat=f.pl.at_.toNat+1 from jB]
   ·rw[oz Wa]at h;simp at h
  ·have hk:k+1<R.nf-1:=hk;rw[hu,jN];have:nth (m.pop.aS d).calls k=nth m.calls k:=by
    show nth (m.pop.calls.set (m.pop.calls.length-1) d) k=_;rw[Go.Gd.aY _ _ _ _ jB,jN,hpk k jB]
   rw[this];exact T5 k jB
 obtain⟨ck,XR⟩:∃ck:Nat,c.at_=(ck:Int):=⟨c.at_.toNat,jB⟩;have SX:ck<C.ins.length:=jB;have Ut:=TA.ins;rw[XR,Int.toNat_natCast]at Ut;by_cases ZO:(ao p (cD p f)).kind=13
 ·rw[if_pos ZO]at Ut;rw[if_neg (fun h=>by rcases h with h|h<;>(have h:(ao p (cD p f)).kind=_:=h;omega))];refine⟨_,aW.ins (c:={ c with stack:=[v],bw:=c.bw-1 }) TW hp8 P' XR SX Ut (fun h=>by cases h) (cX.pQ TW hp8 XR SX Ut (fun _=>jE) (fun h=>by rcases h with h|h<;>cases h) (fun h=>by rcases h with h|h|h|h<;>cases h) (fun h=>by rcases h with h|h|h<;>cases h) (fun h=>by cases h) (fun h=>by cases h) ⟨by show(1:Int)<=23;decide,by show(23:Int)<=23;decide⟩ (fun h=>by cases h) (by intro u hu;rw[List.mem_singleton.1 hu];exact hv) jE) (aW.refl _),?_,⟨rfl,rfl⟩,.inl P'⟩;rw[MV.rL,MV.dc TW];have e:MC.cut { c with at_:=(ck:Int)+1,stack:=[v],bw:=c.bw-1 } 1={ c with at_:=(ck:Int)+1,stack:=[],bw:=c.bw-1+1 }:=rfl;rw[e];exact fin f { c with at_:=(ck:Int)+1,stack:=[],bw:=c.bw-1+1 } rfl rfl rfl TA.slots rfl (by rw[XR]) R.pop.on (by unfold RS.on;rw[show R.pop.nf-1=R.nf-1-1 from rfl,show nth R.pop.aw (R.nf-1-1)=f from WW])
 ·rw[if_neg ZO]at Ut;have TK:jr p (cD p f):=by
   obtain⟨c1,_⟩:=hlk;have:(ao p (cD p f)).kind=10\/(ao p (cD p f)).kind=11:=jB;exact this
  rw[if_pos TK];have hm:cD p f∈dz p f.pl.block:=er jB;obtain⟨k0,k1,k2,k3⟩:=hX.aE hw.ok hf.f0 hf.f1 hm;have Tr:=(hw.ok.aq f.fn.toNat (by have:=hf.f0;have:=hf.f1;omega)).all (cD p f).toNat k2 (by have:=hX.hi;omega) (by unfold jr at TK;unfold iH;omega);have hfs:=hf.sl;refine⟨_,aW.ins (c:={ c with stack:=[v],bw:=c.bw-1 }) TW hp8 P' XR SX Ut (fun h=>by cases h) (cX.pQ TW hp8 XR SX Ut (fun _=>jE) (fun h=>by rcases h with h|h<;>cases h) (fun _=>by show 0<=nth p.slots (cD p f).toNat/\nth p.slots (cD p f).toNat<c.slots.length;rw[TA.slots];omega) (fun h=>by rcases h with h|h|h<;>cases h) (fun h=>by cases h) (fun h=>by cases h) ⟨by show(1:Int)<=6;decide,by show(6:Int)<=23;decide⟩ (fun h=>by cases h) (by intro u hu;rw[List.mem_singleton.1 hu];exact hv) jE) (aW.refl _),?_,⟨rfl,rfl⟩,.inl P'⟩;rw[MV.lu,MV.bc TW,MV.dm];have e:({ MC.cut { c with at_:=(ck:Int)+1,stack:=[v],bw:=c.bw-1 } 1 with slots:=c.slots.set (nth p.slots (cD p f).toNat).toNat (MC.last { c with at_:=(ck:Int)+1,stack:=[v],bw:=c.bw-1 }) }:MC)=⟨c.fn,(ck:Int)+1,c.mark,c.slots.set (nth p.slots (cD p f).toNat).toNat v,[],c.bw-1+1⟩:=rfl;rw[e];refine fin { f with slots:=f.slots.set (nth p.slots (cD p f).toNat).toNat v } ⟨c.fn,(ck:Int)+1,c.mark,c.slots.set (nth p.slots (cD p f).toNat).toNat v,[],c.bw-1+1⟩ rfl rfl rfl (by show c.slots.set _ v=f.slots.set _ v;rw[TA.slots]) rfl (by rw[XR]) _ ?_;rw[zD (R:=R.pop) (by show R.nf-1-1<R.aw.length;omega)];show RS.aS R.pop (R.nf-1-1) (fN { nth R.aw (R.nf-1-1)with slots:=(nth R.aw (R.nf-1-1)).slots.set _ v })=_;rw[WW]
theorem Cy{p:ab}{C:aI}{inp:SI}(hw:kf p)(hC:dB p C):∀(n:Nat) (R:RS) (m:MV),da p R->eN p R->iY p C R m->R.left<n->(R.status=0\/R.status=2)->∃m',aW p C inp m m'/\iY p C (js p n R) m'/\fG m m'
 |0,R,m,_,_,_,h,_=>by omega
 |n+1,R,m,hI,t,hM,hn,hR=>by
  unfold js;split
  ·exact⟨m,aW.refl _,hM,fG.refl _⟩
  rename_i e;have VC:R.status=0:=jB;have hg:=hI.go e;have TB:=hI.ok.nf;have h8:=hI.aw;have hf:dF p R.ah:=hI.fr (R.nf-1) jB;have f0:=hf.f0;have f1:=hf.f1;have D':=hM.len;have P':m.status=0:=hM.status.trans VC;have hT:=hM.aj hg;have hm:m.aS m.aj=m:=MV.rk m jB;split
  ·rename_i e1;obtain⟨ed,⟨k,Te,S5⟩,Vp⟩:=hT.AE (List.length_eq_zero_iff.1 e1);obtain⟨k',c1,c2⟩:=hC.at_ R.ah.fn.toNat jB;have:k'=k:=by rw[Te]at c1;omega
   subst this;have Ut:=c2.app.2.head;rw[<-S5]at Ut;obtain⟨a,b,_⟩:=hI.bq hg (vZ (nth p.aa.aq R.ah.fn.toNat).ret);have tT:=t.bq hw hI hg (v:=vZ (nth p.aa.aq R.ah.fn.toNat).ret) fun hz=>by have:=(hw.ok.ok.aa.fn _ (er (l:=p.aa.aq) (k:=R.ah.fn.toNat) jB)).1.ret;exact⟨rfl,xA jB,fun _=>by show(0:Int)<=_;omega⟩
   have ZE:∀k,k+1<R.nf->nth (m.aS { m.aj with at_:=(ed:Int)+1 }).calls k=nth m.calls k:=fun k hk=>by show nth (m.calls.set (m.calls.length-1) _) k=_;rw[Go.Gd.aY _ _ _ _ jB,jN]
   obtain⟨m1,g1,M1,K1,S1⟩:=BZ (C:=C) (inp:=inp) (m:=m.aS { m.aj with at_:=(ed:Int)+1 }) hw hI t hg (by rw[MV.aO];exact D') (fun k hk=>by rw[ZE k hk];exact hM.low k hk) hM.heap hM.in_ hM.aC P' VC (vZ (nth p.aa.aq R.ah.fn.toNat).ret) (Nat.zero_le _);obtain⟨m2,g2,M2,K2⟩:=Cy hw hC n _ m1 a tT M1 jB (by
    rcases S1 with S1|S1
    ·exact .inl (M1.status.symm.trans S1)
    ·exact .inr S1)
   refine⟨m2,?_,M2,K1.trans K2⟩;have g0:aW p C inp (m.aS m.aj) m1:=aW.ins jB jB P' Vp Ut.1 Ut.2.1 (fun h=>by cases h) (cX.pQ jB jB Vp Ut.1 Ut.2.1 (fun h=>by rcases h with h|h|h|h|h|h|h|h|h|h|h|h<;>cases h) (fun h=>by rcases h with h|h<;>cases h) (fun h=>by rcases h with h|h|h|h<;>cases h) (fun h=>by rcases h with h|h|h<;>cases h) (fun h=>by cases h) (fun h=>by cases h) ⟨by show(1:Int)<=22;decide,by show(22:Int)<=23;decide⟩ (fun h=>by cases h) (by rw[hT.stack];intro v hv;cases hv) (by rw[hT.stack];simp)) (by rw[MV.mq];exact g1);rw[hm]at g0;exact g0.trans g2
  rename_i e1;split
  ·exact⟨m,aW.refl _,hM,fG.refl _⟩
  rename_i e2;have Tb:R.ah.path≠[]:=fun h=>e1 (by rw[h];rfl)
  have hX:=hf.pl _ (lJ Tb);obtain⟨a,b⟩:=hI.cut hg e1;obtain⟨c',g1,T1⟩:=PU (inp:=inp) hw.ok hC (M:=m) jB jB P' f0 f1 Tb (by have:=hX.a0;have:=hX.a1;omega) hT;rw[hm]at g1;have M1:iY p C R.cut (m.aS c'):=by
   have hu:∀k,nth R.cut.aw k=if k=R.nf-1 then{ R.ah with path:=R.ah.path.take (R.ah.path.length-1) }else nth R.aw k:=fun k=>Go.Gd.aY _ _ _ _ jB
   refine⟨by rw[MV.aO];exact D',fun _=>?_,fun k hk=>?_,hM.heap,hM.in_,hM.aC,hM.status⟩
   ·rw[MV.bc jB];have:R.cut.ah={ R.ah with path:=R.ah.path.take (R.ah.path.length-1) }:=(hu (R.nf-1)).trans (if_pos rfl);rw[this];exact T1
   ·have hk:k+1<R.nf:=hk;rw[hu,jN];have:nth (m.aS c').calls k=nth m.calls k:=by
     show nth (m.calls.set (m.calls.length-1) _) k=_;rw[Go.Gd.aY _ _ _ _ jB,jN]
    rw[this];exact hM.low k hk
  obtain⟨m2,g2,M2,K2⟩:=Cy hw hC n _ _ a (t.cut TB hg e1) M1 jB hR;exact⟨m2,g1.trans g2,M2,K2⟩
def wS{R':RS}(hM:iY p C R m)(TB:R.nf<=R.aw.length)(h1:1<=R.nf){g:aH}{d:MC}(ht:mf p C g d)(e1:R'.aw=R.aw.set (R.nf-1) g)(e2:R'.nf=R.nf)(e3:M.calls=m.calls.set (m.calls.length-1) d)(hh:M.heap=R'.heap)(hi:M.in_=R'.in_)(ho:M.aC=R'.aC)(hs:M.status=R'.status):iY p C R' M:=by
 have D':=hM.len;have hu:∀k,nth R'.aw k=if k=R.nf-1 then g else nth R.aw k:=fun k=>by rw[e1];exact Go.Gd.aY _ _ _ _ jB
 have hc:∀k,nth M.calls k=if k=R.nf-1 then d else nth m.calls k:=fun k=>by rw[e3,D'];exact Go.Gd.aY _ _ _ _ jB
 have S9:M.calls.length=R.nf:=by rw[e3,List.length_set];exact D'
 refine⟨by rw[S9,e2],fun _=>?_,fun k hk=>?_,hh,hi,ho,hs⟩
 ·unfold RS.ah MV.aj;rw[e2,hu,if_pos rfl,S9,hc,if_pos rfl];exact ht
 ·rw[e2]at hk;rw[hu,jN,hc,jN];exact hM.low k hk
def Gg{g:aH}(h:g.path≠[]):(fN g).pl=⟨g.pl.block,g.pl.at_+1⟩:=by have:(fN g).path=g.path.take (g.path.length-1)++[⟨g.pl.block,g.pl.at_+1⟩]:=oz h;unfold aH.pl at*;rw[this,List.length_append,List.length_singleton,Nat.add_sub_cancel,mn]
def J0(hS:db p C f.fn f.path n k)(Tb:f.path≠[]):db p C f.fn (fN f).path n k:=by rw[oz Tb];exact Co hS _ _ _ (lE Tb) rfl
def FI{g:aH}{d:MC}(hS:db p C f.fn f.path n k)(Tb:f.path≠[])(a0:0<=f.pl.at_)(e1:g.fn=f.fn)(e2:g.path=f.path)(e3:d.fn=f.fn)(e4:d.slots=g.slots)(e5:d.stack=[])(e6:d.at_=(cf p n k f.pl.block (f.pl.at_.toNat+1):Int)):mf p C (fN g) d:=by
 have Wa:g.path≠[]:=by rw[e2];exact Tb
 have W9:g.pl=f.pl:=by unfold aH.pl;rw[e2]
 refine⟨e3.trans e1.symm,e4,e5,fun _=>⟨n,k,?_,?_⟩,fun h=>?_⟩
 ·show db p C g.fn (fN g).path n k;rw[oz Wa,W9,e2,e1];exact Co hS _ _ _ (lE Tb) rfl
 ·rw[e6,Gg Wa,W9];show(cf p n k f.pl.block (f.pl.at_.toNat+1):Int)=(cf p n k f.pl.block (f.pl.at_+1).toNat:Int);rw[show(f.pl.at_+1).toNat=f.pl.at_.toNat+1 from jB]
 ·rw[oz Wa]at h;simp at h
def I7{d:MC}{kb:Nat}(hS:db p C f.fn f.path (n+1) k)(Tb:f.path≠[])(hk:wy p n f.pl k b kb)(e3:d.fn=f.fn)(e4:d.slots=f.slots)(e5:d.stack=[])(e6:d.at_=(kb:Int)):mf p C { f with path:=f.path++[⟨b,0⟩] } d:=by
 have Vf:aH.pl { f with path:=f.path++[⟨b,0⟩] }=⟨b,0⟩:=by unfold aH.pl;show nth (f.path++[_]) ((f.path++[(⟨b,0⟩:bk)]).length-1)=_;rw[List.length_append,List.length_singleton,Nat.add_sub_cancel];exact mn _ _
 refine⟨e3,e4,e5,fun _=>⟨n,kb,?_,?_⟩,fun h=>?_⟩
 ·show db p C f.fn (f.path++[⟨b,0⟩]) n kb;have hp:=lE Tb;generalize f.path.take (f.path.length-1)=Q at hp;rw[hp]at hS ⊢;exact .deep _ _ ⟨b,0⟩ n k kb hS hk
 ·rw[Vf,e6];rfl
 ·simp at h
theorem DR{p:ab}{C:aI}{inp:SI}(hs:cY p){R:RS}{m:MV}(h1:1<=m.calls.length)(h8:m.calls.length<=8)(P':m.status=0)(hh:m.heap=R.heap){j:Nat}(hj:j<p.aa.aq.length)(Tr:(R.ah.slots.length:Int)=nth p.size j){n:Nat}(c:MC)(hc:c.slots=R.ah.slots) :
  ∀(L:SI) (T9:List ak) (k q:Nat),(∀x∈L,0<=x/\x.toNat<p.aa.nodes.length/\lL p j x/\bT (bA p.aa.nodes x)/\x.toNat<n)->bR C.ins k (bz (aV p n) k L [])->(∀v∈T9,v.s.size<=40)->T9.length+L.length<=10->
   ((R.args p L T9).2=0->(∃q',aW p C inp (m.aS { c with at_:=(k:Int),stack:=T9,bw:=q }) (m.aS { c with at_:=((k+(bz (aV p n) k L []).length:Nat):Int),stack:=(R.args p L T9).1,bw:=q' }))/\∀v∈(R.args p L T9).1,v.s.size<=40)/\((R.args p L T9).2≠0->aW p C inp (m.aS { c with at_:=(k:Int),stack:=T9,bw:=q }) (m.fU c 3 (R.args p L T9).2))
 |[],T9,k,q,hL,hl,hz,hd=>⟨fun _=>⟨⟨q,aW.refl _⟩,hz⟩,fun h=>(h rfl).elim⟩
 |x::L,T9,k,q,hL,hl,hz,hd=>by
  obtain⟨x0,x1,x2,x3,x4⟩:=hL x jE;have hm:=hs.ok.aa.many;have e0:bz (aV p n) (k:Int) (x::L) []=aV p n x k++bz (aV p n) ((k+(aV p n x k).length:Nat):Int) L []:=by show bz (aV p n) k L ([]++aV p n x ((k:Int)+((0:Nat):Int)))=_;rw[uO,List.nil_append,show((k:Int)+((0:Nat):Int))=(k:Int) from jB,Int.natCast_add]
  rw[e0]at hl ⊢;have Wb:=Bt (inp:=inp) hs h1 h8 P' hj Tr n x k { c with at_:=(k:Int),stack:=T9,bw:=q } x0 x1 x2 x3 x4 hc rfl hl.app.1 hz (by show T9.length+x.toNat<=900;simp at hd;omega);have hfu:=At hs.ok.aa R.ah.slots R.heap n p.aa.nodes.length x x0 jB x4 jB x3;rw[hh,hfu]at Wb;have told:=rX hs.ok R.ah.slots R.heap p.aa.nodes.length x x0 jB jB x3;have Z':R.val p x=de p R.ah.slots R.heap p.aa.nodes.length x:=rfl;rw[<-Z']at Wb told;have SY:=told.size;have eA:R.args p (x::L) T9=if(R.val p x).2≠0 then(T9,(R.val p x).2)else R.args p L (T9++[(R.val p x).1]):=rfl
  rw[eA];by_cases hx:(R.val p x).2=0
  ·rw[if_neg (fun h:(R.val p x).2≠0=>h hx)];obtain⟨q1,g1⟩:=Wb.1 hx;obtain⟨i1,i2⟩:=DR (inp:=inp) hs h1 h8 P' hh hj Tr c hc L (T9++[(R.val p x).1]) (k+(aV p n x k).length) q1 (fun y hy=>hL y (by simp[hy])) hl.app.2 (xy hz SY) (by simp at hd ⊢;omega);rw[Int.natCast_add]at i1 i2;rw[List.length_append,<-Nat.add_assoc];refine⟨fun h=>?_,fun h=>g1.trans (i2 h)⟩;obtain⟨⟨q',g2⟩,Xs⟩:=i1 h;exact⟨⟨q',g1.trans g2⟩,Xs⟩
  ·rw[if_pos hx];exact⟨fun h=>(hx h).elim,fun _=>Wb.2 hx⟩
def Gv(hC:dB p C)(hj:j<p.aa.aq.length):∃k:Nat,MV.iX C (j:Int)=(k:Int)/\nth C.entry ((j:Int)).toNat=(k:Int):=by obtain⟨k,h,_⟩:=hC.at_ j hj;exact⟨k,by unfold MV.iX;rw[Int.toNat_natCast];exact h,by rw[Int.toNat_natCast];exact h⟩
def G5(hw:kf p)(hC:dB p C)(hd:bt p R)(t:eN p R)(hM:iY p C R m)(hR:R.status=0){x:Int}{kc ks:Nat}
  (hx:x=nth (ao p (cD p R.ah)).l 0) (P':(ao p (cD p R.ah)).kind=10\/(ao p (cD p R.ah)).kind=11\/(ao p (cD p R.ah)).kind=13) (h0:0<=x) (hl:x.toNat<p.aa.nodes.length) (hk:(ao p x).kind=21) (TP:lL p R.ah.fn.toNat x) (hn:x.toNat<n)
  (TV:bR C.ins kc (cW p n x kc)) {N k:Nat} (hS:db p C R.ah.fn R.ah.path N k) (WR:ks=cf p N k R.ah.pl.block R.ah.pl.at_.toNat) (VV:kc+(cW p n x kc).length+1=cf p N k R.ah.pl.block (R.ah.pl.at_.toNat+1)) (Vw:kc+(cW p n x kc).length<C.ins.length)
  (UW:nth C.ins (kc+(cW p n x kc).length)=if(ao p (cD p R.ah)).kind=13 then iI 23 0 else iI 6 (nth p.slots (cD p R.ah).toNat)) :
  ((R.call p x).2≠0->aW p C inp (m.aS ⟨R.ah.fn,kc,ks,R.ah.slots,[],j⟩) (m.fU ⟨R.ah.fn,kc,ks,R.ah.slots,[],j⟩ 3 (R.call p x).2))/\
  ((R.call p x).2=0->∃m1,aW p C inp (m.aS ⟨R.ah.fn,kc,ks,R.ah.slots,[],j⟩) m1/\iY p C (R.call p x).1 m1/\fG m m1):=by
 have hs:=hw.ok;have h1:=hd.one;have h8:=hd.inv.aw;have UA:=hd.full;have D':=hM.len;have hf:=hd.fr;have f0:=hf.f0;have f1:=hf.f1;have Uu:m.status=0:=hM.status.trans hR;have Tl:1<=m.calls.length:=jB;have UM:m.calls.length<=8:=jB;obtain⟨cal,hc⟩:=callee hs hl hk;have Ug:Dy p x=(cal:Int):=hc.last;have UY:=hs.ok.aa.shape x.toNat hl;have Zx:=hc.yq;have Ub:=DR (inp:=inp) hs Tl UM Uu hM.heap (R:=R) (j:=R.ah.fn.toNat) jB hf.sl (n:=n) ⟨R.ah.fn,kc,ks,R.ah.slots,[],j⟩ rfl (ao p x).l [] kc j (fun y hy=>by obtain⟨y1,y2,y3,y4⟩:=TP.aE hs jB hy;exact⟨y2,y4,y1,UY.1.call hk y hy,jB⟩) TV.app.1 (fun v hv=>by cases hv) jF
 have Wn:=TV.app.2.head;have S9:(cW p n x kc).length=(bz (aV p n) kc (ao p x).l []).length+1:=by unfold cW;rw[List.length_append];rfl
 rw[Ug]at Wn;unfold RS.call;simp only;by_cases ha:(R.args p (ao p x).l []).2=0
 rotate_left
 ·rw[if_pos ha];exact⟨fun _=>Ub.2 ha,fun h=>(ha h).elim⟩
 rw[if_neg (fun h=>h ha)];obtain⟨⟨q,g⟩,hz⟩:=Ub.1 ha;obtain⟨a1,a2⟩:=BT R _ [] ha;rw[List.nil_append]at a1;have WI:(R.args p (ao p x).l []).1.length=(ao p x).l.length:=by rw[a1,List.length_map]
 generalize hA:(R.args p (ao p x).l []).1=A at*;generalize hke2:kc+(bz (aV p n) kc (ao p x).l []).length=ke at*;have ZP:=hs.aq cal hc.lt;have SY:=hs.ok.size;have hok:(m.aS ⟨R.ah.fn,ke,ks,R.ah.slots,A,q⟩).cX p C:=cX.pQ Tl UM rfl Wn.1 Wn.2.1 (fun h=>by rcases h with h|h|h|h|h|h|h|h|h|h|h|h<;>cases h) (fun h=>by rcases h with h|h<;>cases h) (fun h=>by rcases h with h|h|h|h<;>cases h) (fun h=>by rcases h with h|h|h<;>cases h) (fun h=>by cases h) (fun _=>by
  have p1:=ZP.vz;have p2:=ZP.hi;have p3:=hc.args;have p4:=hC.len;have p5:=hc.lt;refine⟨?_,?_,?_,?_,?_,?_,?_,?_,?_⟩
  ·show(0:Int)<=((ao p x).l.length:Int);omega
  ·show((ao p x).l.length:Int)<=(A.length:Int);omega
  ·show((ao p x).l.length:Int)<=3;omega
  ·show(0:Int)<=(cal:Int);omega
  ·show(cal:Int)<(C.entry.length:Int);omega
  ·show(cal:Int)<(p.size.length:Int);omega
  ·show 0<=nth p.size ((cal:Int)).toNat;rw[Int.toNat_natCast];omega
  ·show nth p.size ((cal:Int)).toNat<=24;rw[Int.toNat_natCast];omega
  ·show((ao p x).l.length:Int)<=nth p.size ((cal:Int)).toNat;rw[Int.toNat_natCast];omega) ⟨by show(1:Int)<=20;decide,by show(20:Int)<=23;decide⟩ (fun h=>by cases h) hz (by show A.length<=1000;omega)
 have Uz:∀m',aW p C inp ((m.aS ⟨R.ah.fn,(ke:Int)+1,ks,R.ah.slots,A,q⟩).ins p C inp ⟨20,(cal:Int),((ao p x).l.length:Int),sE⟩) m'->aW p C inp (m.aS ⟨R.ah.fn,kc,ks,R.ah.slots,[],j⟩) m':=fun m' hg=> g.trans (aW.ins (c:=⟨R.ah.fn,ke,ks,R.ah.slots,A,q⟩) Tl UM Uu rfl Wn.1 Wn.2.1 (fun h=>by cases h) hok hg)
 have YF:(m.aS ⟨R.ah.fn,(ke:Int)+1,ks,R.ah.slots,A,q⟩).cut ((ao p x).l.length:Int).toNat=m.aS ⟨R.ah.fn,(ke:Int)+1,ks,R.ah.slots,[],q+(ao p x).l.length⟩:=by rw[MV.dc Tl,Int.toNat_natCast];unfold MC.cut;show m.aS ⟨_,_,_,_,A.take (A.length-(ao p x).l.length),_⟩=_;rw[WI,Nat.sub_self];rfl
 rw[MV.pU,YF,MV.aO]at Uz;by_cases h88:8<=R.nf
 ·rw[if_pos h88];rw[jP]at Uz;refine⟨fun _=>Uz _ ?_,fun h=>absurd h (by show¬((3:Int)=0);decide)⟩;rw[MV.dY Tl];exact aW.refl _
 ·rw[if_neg h88];rw[jN]at Uz;refine⟨fun h=>(h rfl).elim,fun _=>⟨_,Uz _ (aW.refl _),?_,⟨rfl,rfl⟩⟩⟩;rw[MV.bc Tl];show iY p C (R.push (gg p (gx bg.name (ao p x).name p.aa.aq 0) A)) ((m.aS _).cV p C (cal:Int) (A.drop (A.length-((ao p x).l.length:Int).toNat)));rw[hc.at_,Int.toNat_natCast,WI,Nat.sub_self,List.drop_zero];have hu:∀k,k<=R.nf->nth (R.push (gg p cal A)).aw k=if k=R.nf then gg p cal A else nth R.aw k:=fun k hk=>by
   show nth (R.aw++[_]) k=_;rw[zO _ _ _ jB,UA]
  have UU:∀k,k<=R.nf->nth ((m.aS ⟨R.ah.fn,(ke:Int)+1,ks,R.ah.slots,[],q+(ao p x).l.length⟩).cV p C (cal:Int) A).calls k=if k=R.nf then MV.iw p C cal A else if k=R.nf-1 then⟨R.ah.fn,(ke:Int)+1,ks,R.ah.slots,[],q+(ao p x).l.length⟩else nth m.calls k:=fun k hk=>by
   show nth (m.calls.set (m.calls.length-1) _++[MV.iw p C cal A]) k=_;rw[zO _ _ _ (by rw[List.length_set];omega),List.length_set,D'];split
   ·rfl
   ·exact Go.Gd.aY _ _ _ _ jB
  obtain⟨ek,e1,e2⟩:=Gv hC hc.lt;refine⟨?_,fun _=>?_,fun k hk=>?_,hM.heap,hM.in_,hM.aC,hM.status⟩
  ·show(m.calls.set (m.calls.length-1) _++[MV.iw p C cal A]).length=R.nf+1;simp;omega
  ·have T4:RS.ah (R.push (gg p cal A))=gg p cal A:=(hu R.nf jl).trans (if_pos rfl);have hmt:MV.aj ((m.aS ⟨R.ah.fn,(ke:Int)+1,ks,R.ah.slots,[],q+(ao p x).l.length⟩).cV p C (cal:Int) A)=MV.iw p C cal A:=by
    unfold MV.aj;have:((m.aS ⟨R.ah.fn,(ke:Int)+1,ks,R.ah.slots,[],q+(ao p x).l.length⟩).cV p C (cal:Int) A).calls.length-1=R.nf:=by show(m.calls.set (m.calls.length-1) _++[MV.iw p C cal A]).length-1=_;simp;omega
    rw[this,UU _ jl,if_pos rfl]
   rw[T4,hmt];refine⟨rfl,rfl,rfl,fun _=>⟨me p,ek,.base _ ek rfl e2,?_⟩,fun h=>by cases h⟩;show MV.iX C cal=((nD _ ek _ 0:Nat):Int);rw[e1];rfl
  ·have hk:k+1<R.nf+1:=hk;rw[hu k jB,jN,UU k jB,jN];split
   ·rename_i e;have:nth R.aw k=R.ah:=by unfold RS.ah;rw[e]
    rw[this];refine⟨rfl,rfl,rfl,⟨N,_,hS,by show(ks:Int)=_;rw[WR],by show(ke:Int)+1+1=_;rw[<-VV,S9];push_cast;omega,by show(0:Int)<=(ke:Int)+1;omega,by show(ke:Int)+1<(C.ins.length:Int);omega⟩,?_⟩;show nth C.ins ((ke:Int)+1).toNat=_;rw[show((ke:Int)+1).toNat=kc+(cW p n x kc).length from jB];exact UW
   ·exact hM.low k jB
end Go.Proofs.YtbjookcdpondlaaGreatDoor
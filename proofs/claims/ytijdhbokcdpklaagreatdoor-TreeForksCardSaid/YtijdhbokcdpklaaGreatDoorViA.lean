/- Lemmas. No conditions. -/
import Derived.Test.YtijdhbokcdpklaaGreatDoorSo9
set_option linter.all false
namespace Go.Gd
open Go
def iI(op a:Int):ay:=⟨op,a,0,sE⟩
def bv(f:Int->Int->List ay)(from_:Int):UG->List ay->List ay
 |[],out=>out
 |x::l,out=>bv f from_ l (out++f x (from_+out.length))
def lh(s:UI):Int:=if s=(⟨#[38,38]⟩:UI)then 18 else if s=(⟨#[124,124]⟩:UI)then 19 else 7
def bo(p:af):Nat->Int->Int->List ay
 |0,_,_=>[]
 |n+1,a,from_=>
  let nd:=ao p a
  let x:=bo p n (nth nd.l 0) from_
  if nd.kind=1 then[iI 2 nd.n]
  else if nd.kind=2 then[iI 3 nd.n]
  else if nd.kind=3 then[⟨4,0,0,nd.name⟩]
  else if nd.kind=4 then[⟨5,nth p.slots a.toNat,nth p.types a.toNat,sE⟩]
  else if nd.kind=5 then x++[iI 11 (nth p.slots a.toNat)]
  else if nd.kind=6 then x++[iI 10 0]
  else if nd.kind=7 then x++[iI 8 0]
  else if nd.kind=8 then x++[iI 9 0]
  else if lh nd.name=7 then x++bo p n (nth nd.l 1) (from_+x.length)++[⟨7,0,0,nd.name⟩]
  else
   let y:=bo p n (nth nd.l 1) (from_+x.length+1)
   x++[iI (lh nd.name) (from_+x.length+1+y.length)]++y
def mO(p:af):Nat:=p.aa.nodes.length
def BP(p:af)(a:Int):Int:=jy bh.name (ao p a).name p.aa.aw 0 (-1)
def cF(p:af)(n:Nat)(a from_:Int):List ay:=bv (bo p n) from_ (ao p a).l []++[⟨20,BP p a,(ao p a).l.length,sE⟩]
def jx(p:af)(n:Nat)(a from_:Int):List ay:=
 if(ao p a).kind=19 then[iI 14 0]
 else if(ao p a).kind=20 then bo p n (nth (ao p a).l 0) from_++[iI 13 0]
 else if(ao p a).kind=21 then cF p n a from_
 else bo p n a from_
def qW(p:af)(n:Nat)(bl:Int->Int->List ay)(a from_:Int):List ay:=
 let nd:=ao p a
 let x:=bo p n (nth nd.l 0) from_
 let b:=bl (nth nd.l 1) (from_+x.length+1)
 if nd.kind=16 then x++[iI 17 (from_+x.length+1+(b.length+1))]++(b++[iI 16 (from_-1)])
 else if nd.l.length=3 then
  let c:=bl (nth nd.l 2) (from_+x.length+1+b.length+1)
  x++[iI 17 (from_+x.length+1+(b.length+1))]++(b++[iI 16 (from_+x.length+1+b.length+1+c.length)])++c
 else x++[iI 17 (from_+x.length+1+b.length)]++b
def gk(p:af):Nat->Int->Int->List ay
 |0,_,_=>[]
 |n+1,a,from_=>
  let nd:=ao p a
  let at_:=from_+1
  let x:=bo p n (nth nd.l 0) at_
  iI 1 a::(
   if nd.kind=10\/nd.kind=11 then jx p n (nth nd.l 0) at_++[iI 6 (nth p.slots a.toNat)]
   else if nd.kind=12 then x++bo p n (nth nd.l 1) (at_+x.length)++[iI 12 (nth p.slots a.toNat)]
   else if nd.kind=13 then cF p n (nth nd.l 0) at_++[iI 23 0]
   else if nd.kind=14 then x++[iI 15 0]
   else if nd.kind=17 then(if nd.l.length=0 then[iI 22 0]else x++[iI 21 0])
   else qW p n (fun b f=>bv (gk p n) f (ao p b).l []) a at_)
def qq(p:af)(n:Nat)(b from_:Int):List ay:=bv (gk p n) from_ (ao p b).l []
def Ar(p:af)(c:aI)(f:bh):aI:=⟨c.ins++qq p (mO p) f.body c.ins.length++[iI 22 f.ret],c.entry++[(c.ins.length:Int)]⟩
def bz(p:af):aI:=p.aa.aw.foldl (Ar p) ⟨[],[]⟩
structure MC where
 fn:Int
 at_:Int
 mark:Int
 slots:List aj
 stack:List aj
 aT:Nat
 deriving Inhabited
structure MV where
 calls:List MC
 aT:Nat
 heap:List (List Int)
 in_:Int
 bC:List ByteArray
 status:Int
 dn:Int
 time:Int
namespace MC
def push(c:MC)(v:aj):MC:={ c with stack:=c.stack++[v],aT:=c.aT-1 }
def last(c:MC):aj:=nth c.stack (c.stack.length-1)
def cut(c:MC)(n:Nat):MC:={ c with stack:=c.stack.take (c.stack.length-n),aT:=c.aT+n }
def jump(c:MC)(a:Int):MC:={ c with at_:=a }
def back(c:MC):MC:={ c with at_:=c.mark,stack:=[],aT:=0 }
end MC
namespace MV
def ah(m:MV):MC:=nth m.calls (m.calls.length-1)
def aW(m:MV)(c:MC):MV:={ m with calls:=m.calls.set (m.calls.length-1) c }
def push(m:MV)(v:aj):MV:=m.aW (m.ah.push v)
def cut(m:MV)(n:Nat):MV:=m.aW (m.ah.cut n)
def stops(m:MV)(status dn:Int):MV:={ m.aW m.ah.back with status:=status,dn:=dn }
def dZ(m:MV)(r:aj×Int):MV:=if r.2≠0 then m.stops 3 r.2 else m.push r.1
def pop(m:MV):MV:={ m with calls:=m.calls.take (m.calls.length-1),aT:=m.aT+1 }
def ends(m:MV)(v:aj):MV:=if m.calls.length<=1 then{ m.pop with status:=2 }else m.pop.push v
def Ip(C:aI)(fn:Int):Int:=nth C.entry fn.toNat
def iH(p:af)(C:aI)(fn:Int)(args:List aj):MC:=⟨fn,Ip C fn,Ip C fn,args++List.replicate ((nth p.size fn.toNat)-args.length).toNat v0,[],0⟩
def cQ(m:MV)(p:af)(C:aI)(fn:Int)(args:List aj):MV:={ m with calls:=m.calls++[iH p C fn args],aT:=m.aT-1 }
def bn(h:UF)(n:Int):UG:=if n<1\/(h.length:Int)<n then[]else nth h (n-1).toNat
def ins(m:MV)(p:af)(C:aI)(inp:UG)(x:ay):MV:=
 let c:=m.ah
 let l:=c.last
 let k:=(c.cut 1).last
 if x.op=2 then m.push (vI x.a)
 else if x.op=3 then m.push (vB (decide (x.a=1)))
 else if x.op=4 then m.push (vT x.s)
 else if x.op=5 then m.push (fc c.slots x.a x.b)
 else if x.op=6 then m.aW { c.cut 1 with slots:=c.slots.set x.a.toNat l }
 else if x.op=7 then(m.cut 2).dZ (qt x.s k l)
 else if x.op=8 then(m.cut 1).push (mG (⟨#[45]⟩:UI) l)
 else if x.op=9 then(m.cut 1).push (mG (⟨#[33]⟩:UI) l)
 else if x.op=10 then(m.cut 1).push (vI (if l.ty=4 then((bn m.heap l.n).length:Int)else(l.s.size:Int)))
 else if x.op=11 then
  let L:=bn m.heap (fc c.slots x.a 4).n
  if l.n<0\/(L.length:Int)<=l.n then(m.cut 1).stops 3 2 else(m.cut 1).push (vI (nth L l.n.toNat))
 else if x.op=12 then
  let a:=(fc c.slots x.a 4).n
  if k.n<0\/((bn m.heap a).length:Int)<=k.n then(m.cut 2).stops 3 2
  else{ m.cut 2 with heap:=m.heap.set (a-1).toNat ((nth m.heap (a-1).toNat).set k.n.toNat l.n) }
 else if x.op=13 then
  if l.n<0\/16<l.n then(m.cut 1).stops 3 7
  else if 40<gr m.heap+l.n+1 then(m.cut 1).stops 3 4
  else{ (m.cut 1).push ⟨4,m.heap.length+1,sE⟩with heap:=m.heap++[List.replicate l.n.toNat 0] }
 else if x.op=14 then
  if(inp.length:Int)<=m.in_ then m.stops 1 0 else{ m.push (vI (nth inp m.in_.toNat))with in_:=m.in_+1 }
 else if x.op=15 then
  if 24<=m.bC.length then m.stops 3 5 else{ m.cut 1 with bC:=m.bC++[mH l] }
 else if x.op=16 then m.aW (c.jump x.a)
 else if x.op=17 then(if l.n=0 then m.aW ((c.cut 1).jump x.a)else m.cut 1)
 else if x.op=18\/x.op=19 then(if(l.n=1<->x.op=19)then m.aW (c.jump x.a)else m.cut 1)
 else if x.op=20 then
  let m1:=m.cut x.b.toNat
  if 8<=m.calls.length then m1.stops 3 3 else m1.cQ p C x.a (c.stack.drop (c.stack.length-x.b.toNat))
 else if x.op=21 then(m.cut 1).ends l
 else if x.op=22 then m.ends (vZ x.a)
 else if x.op=23 then m.cut 1
 else m
def bg(m:MV)(C:aI):ay:=nth C.ins m.ah.at_.toNat
def one(m:MV)(p:af)(C:aI)(inp:UG):MV:=(m.aW (m.ah.jump (m.ah.at_+1))).ins p C inp (m.bg C)
structure fS(m:MV)(p:af)(C:aI):Prop where
 calls:1<=m.calls.length
 nb:m.calls.length<=8
 a0:0<=m.ah.at_
 a1:m.ah.at_<C.ins.length
 one:(m.bg C).op=6\/(m.bg C).op=8\/(m.bg C).op=9\/(m.bg C).op=10\/(m.bg C).op=11\/(m.bg C).op=13\/(m.bg C).op=15\/(m.bg C).op=17\/(m.bg C).op=18\/(m.bg C).op=19\/(m.bg C).op=21\/(m.bg C).op=23->1<=m.ah.stack.length
 two:(m.bg C).op=7\/(m.bg C).op=12->2<=m.ah.stack.length
 slot:(m.bg C).op=5\/(m.bg C).op=6\/(m.bg C).op=11\/(m.bg C).op=12->0<=(m.bg C).a/\(m.bg C).a<m.ah.slots.length
 call:(m.bg C).op=20->0<=(m.bg C).b/\(m.bg C).b<=m.ah.stack.length/\(m.bg C).b<=3/\0<=(m.bg C).a/\(m.bg C).a<C.entry.length/\(m.bg C).a<p.size.length/\0<=nth p.size (m.bg C).a.toNat/\nth p.size (m.bg C).a.toNat<=24/\(m.bg C).b<=nth p.size (m.bg C).a.toNat
 op:1<=(m.bg C).op/\(m.bg C).op<=23
 word:(m.bg C).op=15->bD m.ah.last.n
 j6:∀v∈m.ah.stack,v.s.size<=40
 deep:m.ah.stack.length<=1000
end MV
def bJ(C:List ay)(k:Nat)(c:List ay):Prop:=∃post,C.drop k=c++post
variable{C:List ay}{k:Nat}
def bJ.app{a b:List ay}(h:bJ C k (a++b)):bJ C k a/\bJ C (k+a.length) b:=by obtain⟨post,e⟩:=h;refine⟨⟨b++post,by rw[e,List.append_assoc]⟩,⟨post,?_⟩⟩;rw[<-List.drop_drop,e,List.append_assoc,List.drop_left]
def bJ.head{x:ay}{c:List ay}(h:bJ C k (x::c)):k<C.length/\nth C k=x/\bJ C (k+1) c:=by
 obtain⟨post,e⟩:=h;have hk:k<C.length:=Classical.byContradiction fun h=>by rw[List.drop_eq_nil_of_le jB]at e;cases e
 refine⟨hk,?_,⟨post,?_⟩⟩
 ·rw[List.drop_eq_getElem_cons hk]at e;rw[fO hk];exact(List.cons.inj e).1
 ·rw[List.drop_eq_getElem_cons hk]at e;exact(List.cons.inj e).2
def bJ.last{x:ay}{c:List ay}(h:bJ C k (c++[x])):bJ C k c/\k+c.length<C.length/\nth C (k+c.length)=x:=
 ⟨h.app.1,h.app.2.head.1,h.app.2.head.2.1⟩
theorem vn(f:Int->Int->List ay):∀(L:UG) (k:Int) (out:List ay),bv f k L out=out++bv f (k+out.length) L []
 |[],k,out=>by simp[bv]
 |x::L,k,out=>by show bv f k L (out++f x (k+out.length))=out++bv f (k+out.length) L ([]++f x (k+out.length+(0:Nat)));rw[vn f L k,vn f L (k+out.length) _];simp only[List.nil_append,List.length_append,List.append_assoc,Int.natCast_add,Int.natCast_zero,Int.add_zero,Int.add_assoc]
theorem AD(f:Int->Int->List ay):∀(A B:UG) (k:Int) (out:List ay),bv f k (A++B) out=bv f k B (bv f k A out)
 |[],B,k,out=>rfl
 |x::A,B,k,out=>AD f A B k _
theorem DH{f g:Int->Int->List ay}:∀(L:UG) (k:Int) (out:List ay),(∀x∈L,∀j,f x j=g x j)->bv f k L out=bv g k L out
 |[],_,_,_=>rfl
 |x::L,k,out,h=>by show bv f k L (out++f x _)=bv g k L (out++g x _);rw[h x jE,DH L k _ fun y hy=>h y (by simp[hy])]
namespace MV
variable{M:MV}
def bp(h:1<=M.calls.length)(c:MC):(M.aW c).ah=c:=by show nth (M.calls.set _ c) ((M.calls.set _ c).length-1)=c;rw[List.length_set];exact(Go.Gd.dG _ _ _ _ jB).trans (if_pos rfl)
def dt(M:MV)(c d:MC):(M.aW c).aW d=M.aW d:=by show({ M with calls:=(M.calls.set _ c).set ((M.calls.set _ c).length-1) d }:MV)=_;rw[List.length_set,List.set_set];rfl
def bM(M:MV)(c:MC):(M.aW c).calls.length=M.calls.length:=by show(M.calls.set _ c).length=_;simp
def qH(M:MV)(h:1<=M.calls.length):M.aW M.ah=M:=by show({ M with calls:=M.calls.set (M.calls.length-1) (nth M.calls (M.calls.length-1)) }:MV)=M;rw[fO jB,List.set_getElem_self]
def ki(M:MV)(c:MC):(M.aW c).heap=M.heap:=rfl
def je(M:MV)(c:MC)(s t:Int):MV:={ M.aW c.back with status:=s,dn:=t }
def eF(h:1<=M.calls.length)(c:MC)(s t:Int):(M.aW c).stops s t=M.je c s t:=by unfold stops je;rw[bp h,dt]
def fp(h:1<=M.calls.length)(c:MC)(v:aj):(M.aW c).push v=M.aW (c.push v):=by unfold push;rw[bp h,dt]
def df(h:1<=M.calls.length)(c:MC)(n:Nat):(M.aW c).cut n=M.aW (c.cut n):=by unfold cut;rw[bp h,dt]
end MV
section
variable (m:MV)(p:af)(C:aI)(inp:UG)(a b:Int)(s:UI)
def MV.qK:m.ins p C inp (iI 2 a)=m.push (vI a):=rfl
def MV.pD:m.ins p C inp (iI 3 a)=m.push (vB (decide (a=1))):=rfl
def MV.pM:m.ins p C inp ⟨4,a,b,s⟩=m.push (vT s):=rfl
def MV.pX:m.ins p C inp ⟨5,a,b,s⟩=m.push (fc m.ah.slots a b):=rfl
def MV.oh:m.ins p C inp (iI 6 a)=m.aW { m.ah.cut 1 with slots:=m.ah.slots.set a.toNat m.ah.last }:=rfl
def MV.rH:m.ins p C inp ⟨7,a,b,s⟩=(m.cut 2).dZ (qt s (m.ah.cut 1).last m.ah.last):=rfl
def MV.rl:m.ins p C inp (iI 8 a)=(m.cut 1).push (mG (⟨#[45]⟩:UI) m.ah.last):=rfl
def MV.rz:m.ins p C inp (iI 9 a)=(m.cut 1).push (mG (⟨#[33]⟩:UI) m.ah.last):=rfl
def MV.iE:m.ins p C inp (iI 10 a)=(m.cut 1).push (vI (if m.ah.last.ty=4 then((bn m.heap m.ah.last.n).length:Int)else(m.ah.last.s.size:Int))):=rfl
def MV.oN:m.ins p C inp (iI 11 a)=if m.ah.last.n<0\/((bn m.heap (fc m.ah.slots a 4).n).length:Int)<=m.ah.last.n then(m.cut 1).stops 3 2 else(m.cut 1).push (vI (nth (bn m.heap (fc m.ah.slots a 4).n) m.ah.last.n.toNat)):=rfl
def MV.rZ:m.ins p C inp (iI 12 a)=if(m.ah.cut 1).last.n<0\/((bn m.heap (fc m.ah.slots a 4).n).length:Int)<=(m.ah.cut 1).last.n then(m.cut 2).stops 3 2
  else{ m.cut 2 with heap:=m.heap.set ((fc m.ah.slots a 4).n-1).toNat ((nth m.heap ((fc m.ah.slots a 4).n-1).toNat).set (m.ah.cut 1).last.n.toNat m.ah.last.n) }:=rfl
def MV.qM:m.ins p C inp (iI 13 a)=if m.ah.last.n<0\/16<m.ah.last.n then(m.cut 1).stops 3 7
  else if 40<gr m.heap+m.ah.last.n+1 then(m.cut 1).stops 3 4
  else{ (m.cut 1).push ⟨4,m.heap.length+1,sE⟩with heap:=m.heap++[List.replicate m.ah.last.n.toNat 0] }:=rfl
def MV.oc:m.ins p C inp (iI 14 a)=if(inp.length:Int)<=m.in_ then m.stops 1 0 else{ m.push (vI (nth inp m.in_.toNat))with in_:=m.in_+1 }:=rfl
def MV.oP:m.ins p C inp (iI 15 a)=if 24<=m.bC.length then m.stops 3 5 else{ m.cut 1 with bC:=m.bC++[mH m.ah.last] }:=rfl
def MV.mw:m.ins p C inp (iI 16 a)=m.aW (m.ah.jump a):=rfl
def MV.oq:m.ins p C inp (iI 17 a)=if m.ah.last.n=0 then m.aW ((m.ah.cut 1).jump a)else m.cut 1:=rfl
def MV.ri:m.ins p C inp (iI 18 a)=if m.ah.last.n=1 then m.cut 1 else m.aW (m.ah.jump a):=by
 show(if(m.ah.last.n=1<->(18:Int)=19)then m.aW (m.ah.jump a)else m.cut 1)=_;by_cases h:m.ah.last.n=1
 ·rw[if_pos h,if_neg (fun e=>absurd (e.1 h) jC)]
 ·rw[if_neg h,if_pos ⟨fun e=>(h e).elim,fun e=>absurd e jC⟩]
def MV.tW:m.ins p C inp (iI 19 a)=if m.ah.last.n=1 then m.aW (m.ah.jump a)else m.cut 1:=by
 show(if(m.ah.last.n=1<->(19:Int)=19)then m.aW (m.ah.jump a)else m.cut 1)=_;by_cases h:m.ah.last.n=1
 ·rw[if_pos h,if_pos ⟨fun _=>rfl,fun _=>h⟩]
 ·rw[if_neg h,if_neg (fun e=>h (e.2 rfl))]
def MV.pW:m.ins p C inp ⟨20,a,b,s⟩=if 8<=m.calls.length then(m.cut b.toNat).stops 3 3 else(m.cut b.toNat).cQ p C a (m.ah.stack.drop (m.ah.stack.length-b.toNat)):=rfl
def MV.rn:m.ins p C inp (iI 21 a)=(m.cut 1).ends m.ah.last:=rfl
def MV.qY:m.ins p C inp (iI 23 a)=m.cut 1:=rfl
end
inductive dY(p:af)(C:aI)(inp:List Int):Nat->MV->MV->Prop
 |refl (m:MV):dY p C inp 0 m m
 |step {n:Nat} {m m':MV} (h0:m.status=0) (h1:(m.bg C).op≠1) (hok:m.fS p C) (h:dY p C inp n (m.one p C inp) m'):dY p C inp (n+1) m m'
def bc(p:af)(C:aI)(inp:UG)(m m':MV):Prop:=∃n,dY p C inp n m m'
theorem bc.refl{p:af}{C:aI}{inp:UG}(m:MV):bc p C inp m m:=⟨0,.refl m⟩
def dY.trans{p:af}{C:aI}{inp:UG}{n:Nat}{a b:MV}(h:dY p C inp n a b):∀{k c},dY p C inp k b c->dY p C inp (n+k) a c:=by
 induction h with
 |refl m=>intro k c hk;rw[Nat.zero_add];exact hk
 |step h0 h1 hok _ ih=>intro k c hk;rw[Nat.add_right_comm];exact .step h0 h1 hok (ih hk)
theorem bc.trans{p:af}{C:aI}{inp:UG}{a b c:MV}(h:bc p C inp a b)(k:bc p C inp b c):bc p C inp a c:=by obtain⟨n,h⟩:=h;obtain⟨m,k⟩:=k;exact⟨n+m,h.trans k⟩
theorem bc.ins{p:af}{C:aI}{inp:UG}{M m':MV}{c:MC}{k:Nat}{x:ay}(h1:1<=M.calls.length)(h8:M.calls.length<=8)(hs:M.status=0)(hk:c.at_=k)(O':k<C.ins.length)(hx:nth C.ins k=x)(WH:x.op≠1)
  (hok:(M.aW c).fS p C) (hg:bc p C inp ((M.aW { c with at_:=(k:Int)+1 }).ins p C inp x) m'):bc p C inp (M.aW c) m':=by
 obtain⟨n,hg⟩:=hg;have hi:(M.aW c).bg C=x:=by unfold MV.bg;rw[MV.bp h1,hk,Int.toNat_natCast,hx]
 refine⟨n+1,.step hs (by rw[hi];exact WH) hok ?_⟩;unfold MV.one;rw[hi,MV.bp h1,MV.dt];unfold MC.jump;rw[hk];exact hg
def fS.Lm{p:af}{C:aI}{M:MV}{c:MC}{x:ay}(h1:1<=M.calls.length)(h8:M.calls.length<=8)(hk:c.at_=k)(O':k<C.ins.length)(hx:nth C.ins k=x)
  (one:x.op=6\/x.op=8\/x.op=9\/x.op=10\/x.op=11\/x.op=13\/x.op=15\/x.op=17\/x.op=18\/x.op=19\/x.op=21\/x.op=23->1<=c.stack.length)
  (two:x.op=7\/x.op=12->2<=c.stack.length)
  (slot:x.op=5\/x.op=6\/x.op=11\/x.op=12->0<=x.a/\x.a<c.slots.length)
  (call:x.op=20->0<=x.b/\x.b<=c.stack.length/\x.b<=3/\0<=x.a/\x.a<C.entry.length/\x.a<p.size.length/\0<=nth p.size x.a.toNat/\nth p.size x.a.toNat<=24/\x.b<=nth p.size x.a.toNat)
  (op:1<=x.op/\x.op<=23) (word:x.op=15->bD c.last.n) (j6:∀v∈c.stack,v.s.size<=40) (deep:c.stack.length<=1000):(M.aW c).fS p C:=by
 have hi:(M.aW c).bg C=x:=by unfold MV.bg;rw[MV.bp h1,hk,Int.toNat_natCast,hx]
 have ht:=MV.bp h1 c;refine⟨by rw[MV.bM];exact h1,by rw[MV.bM];exact h8,by rw[ht,hk];omega,by rw[ht,hk];omega,?_,?_,?_,?_,?_,?_,?_,?_⟩
 ·rw[hi,ht];exact one
 ·rw[hi,ht];exact two
 ·rw[hi,ht];exact slot
 ·rw[hi,ht];exact call
 ·rw[hi];exact op
 ·rw[hi,ht];exact word
 ·rw[ht];exact j6
 ·rw[ht];exact deep
def Ka(p:af)(n:Nat)(k:Nat)(b:Int):List ay:=bv (gk p n) k (xh p b) []
structure tM(p:af)(C:aI):Prop where
 len:C.entry.length=p.aa.aw.length
 at_:∀j,j<p.aa.aw.length->∃k:Nat,nth C.entry j=(k:Int)/\bJ C.ins k (Ka p (mO p) k (nth p.aa.aw j).body++[iI 22 (nth p.aa.aw j).ret])
 o0:C.ins.length<=1000000
def MV.eo(m:MV):MV:={ m.aW { m.ah with mark:=m.ah.at_,at_:=m.ah.at_+1 }with status:=0 }
def MV.dF(m:MV)(C:aI):Prop:=m.status≠0\/(m.bg C).op=1
def MV.fA(m:MV):MV:={ m with time:=if m.status=1 then m.time else m.time+1 }
def qz(p:af)(x:Int):bE:=⟨(ao p x).name,nth p.types (nth (ao p x).l 0).toNat,nth p.slots x.toNat⟩
def oZ(w:Int->List bE->Option (List bE))(vars:List bE):UG->Option (List bE)
 |[]=>none
 |b::l=>(w b vars).or (oZ w vars l)
def lV(p:af)(x:Int)(vars:List bE):List bE:=if(ao p x).kind=10 then vars++[qz p x]else vars
def pV(w:Int->List bE->Option (List bE))(p:af)(node:Int):UG->List bE->Option (List bE)
 |[],_=>none
 |x::l,vars=>
  if x=node then some vars
  else(if(ao p x).kind=15\/(ao p x).kind=16 then oZ w (lV p x vars) ((ao p x).l.drop 1)else none).or (pV w p node l (lV p x vars))
def lB(p:af)(node:Int):Nat->Int->List bE->Option (List bE)
 |0,_,_=>none
 |n+1,b,vars=>pV (lB p node n) p node (ao p b).l vars
def kD:List bI->Int->List bE
 |[],_=>[]
 |x::l,i=>⟨x.name,x.ty,i⟩::kD l (i+1)
def ij(p:af)(node:Int):List bE:=
 (lB p node p.aa.nodes.length (nth p.aa.aw (nth p.fn node.toNat).toNat).body (kD (nth p.aa.aw (nth p.fn node.toNat).toNat).params 0)).getD []
end Go.Gd
namespace Go.Gd.MV
open Go
def fi(c:MC)(v:aj)(st:List aj)(a:Int)(q:Nat):MC.last { c with at_:=a,stack:=st++[v],aT:=q }=v:=by show nth (st++[v]) ((st++[v]).length-1)=v;rw[List.length_append,List.length_singleton,Nat.add_sub_cancel];exact qc _ _
def fP(c:MC)(v:aj)(st:List aj)(a:Int)(q:Nat):MC.cut { c with at_:=a,stack:=st++[v],aT:=q } 1={ c with at_:=a,stack:=st,aT:=q+1 }:=by show MC.mk c.fn a c.mark c.slots ((st++[v]).take ((st++[v]).length-1)) (q+1)=_;rw[List.length_append,List.length_singleton,Nat.add_sub_cancel,List.take_left]
def ow(c:MC)(u v:aj)(st:List aj)(a:Int)(q:Nat):MC.cut { c with at_:=a,stack:=st++[u]++[v],aT:=q } 2={ c with at_:=a,stack:=st,aT:=q+2 }:=by show MC.mk c.fn a c.mark c.slots ((st++[u]++[v]).take ((st++[u]++[v]).length-2)) (q+2)=_;rw[List.append_assoc,List.length_append,show([u]++[v]).length=2 from rfl,Nat.add_sub_cancel,List.take_left]
end Go.Gd.MV
namespace Go.Proofs.YtijdhbokcdpklaaGreatDoor
open Go Go.Gd
def jo(p:af)(j:Nat)(a:Int):Prop:=kS p.aa j<=a.toNat/\a.toNat<=(nth p.aa.aw j).body.toNat
variable{p:af}{a:Int}
def jo.aF(h:fX p){j:Nat}(hj:j<p.aa.aw.length){b:Int}(hi:jo p j a)(hb:b∈(ao p a).l):jo p j b/\0<=b/\b.toNat<a.toNat/\b.toNat<p.aa.nodes.length:=by
 have VW:=o8 h.ok.aa hj;have ha:a.toNat<p.aa.nodes.length:=by have:=hi.2;have:=VW.1;have:=VW.2;omega
 have h1:=(h.ok.aa.shape a.toNat ha).2.1 b hb;have hc:=(h.aw j hj).chain;have h2:=hi.2;have h3:=hi.1;refine⟨⟨?_,jB⟩,h1.1,h1.2,jB⟩;by_cases e:a.toNat<(nth p.aa.aw j).body.toNat
 ·exact hc.closed _ h3 e b hb
 ·have e:a.toNat=(nth p.aa.aw j).body.toNat:=jB;have Vv:b∈(nth p.aa.nodes a.toNat).l:=hb;rw[e]at Vv;exact(hc.mem b Vv).2.1
def OF{α:Type}{P:α->Prop}{l:List α}{x:α}(h:∀v∈l,P v)(hx:P x):∀v∈l++[x],P v:=fun v hv=>by
 rcases List.mem_append.1 hv with hv|hv
 ·exact h v hv
 ·rw[List.mem_singleton.1 hv];exact hx
def l9(p:af)(n:Nat)(a k:Int):bo p (n+1) a k=(
  if(ao p a).kind=1 then[iI 2 (ao p a).n]
  else if(ao p a).kind=2 then[iI 3 (ao p a).n]
  else if(ao p a).kind=3 then[⟨4,0,0,(ao p a).name⟩]
  else if(ao p a).kind=4 then[⟨5,nth p.slots a.toNat,nth p.types a.toNat,sE⟩]
  else if(ao p a).kind=5 then bo p n (nth (ao p a).l 0) k++[iI 11 (nth p.slots a.toNat)]
  else if(ao p a).kind=6 then bo p n (nth (ao p a).l 0) k++[iI 10 0]
  else if(ao p a).kind=7 then bo p n (nth (ao p a).l 0) k++[iI 8 0]
  else if(ao p a).kind=8 then bo p n (nth (ao p a).l 0) k++[iI 9 0]
  else if lh (ao p a).name=7 then bo p n (nth (ao p a).l 0) k++bo p n (nth (ao p a).l 1) (k+(bo p n (nth (ao p a).l 0) k).length)++[⟨7,0,0,(ao p a).name⟩]
  else bo p n (nth (ao p a).l 0) k++[iI (lh (ao p a).name) (k+(bo p n (nth (ao p a).l 0) k).length+1+(bo p n (nth (ao p a).l 1) (k+(bo p n (nth (ao p a).l 0) k).length+1)).length)]++bo p n (nth (ao p a).l 1) (k+(bo p n (nth (ao p a).l 0) k).length+1)):=rfl
variable{n:Nat}{bl:Int->Int->List ay}{k:Int}
def Hi(hk:(ao p a).kind=16):qW p n bl a k=bo p n (nth (ao p a).l 0) k++[iI 17 (k+(bo p n (nth (ao p a).l 0) k).length+1+((bl (nth (ao p a).l 1) (k+(bo p n (nth (ao p a).l 0) k).length+1)).length+1))]++(bl (nth (ao p a).l 1) (k+(bo p n (nth (ao p a).l 0) k).length+1)++[iI 16 (k-1)]):=by unfold qW;simp only;rw[if_pos hk]
def J7(hk:(ao p a).kind=15)(hl:(ao p a).l.length=3):qW p n bl a k=bo p n (nth (ao p a).l 0) k++[iI 17 (k+(bo p n (nth (ao p a).l 0) k).length+1+((bl (nth (ao p a).l 1) (k+(bo p n (nth (ao p a).l 0) k).length+1)).length+1))]++(bl (nth (ao p a).l 1) (k+(bo p n (nth (ao p a).l 0) k).length+1)++[iI 16 (k+(bo p n (nth (ao p a).l 0) k).length+1+(bl (nth (ao p a).l 1) (k+(bo p n (nth (ao p a).l 0) k).length+1)).length+1+(bl (nth (ao p a).l 2) (k+(bo p n (nth (ao p a).l 0) k).length+1+(bl (nth (ao p a).l 1) (k+(bo p n (nth (ao p a).l 0) k).length+1)).length+1)).length)])++bl (nth (ao p a).l 2) (k+(bo p n (nth (ao p a).l 0) k).length+1+(bl (nth (ao p a).l 1) (k+(bo p n (nth (ao p a).l 0) k).length+1)).length+1):=by unfold qW;simp only;rw[jN,if_pos hl]
def JB(hk:(ao p a).kind=15)(hl:(ao p a).l.length≠3):qW p n bl a k=bo p n (nth (ao p a).l 0) k++[iI 17 (k+(bo p n (nth (ao p a).l 0) k).length+1+(bl (nth (ao p a).l 1) (k+(bo p n (nth (ao p a).l 0) k).length+1)).length)]++bl (nth (ao p a).l 1) (k+(bo p n (nth (ao p a).l 0) k).length+1):=by unfold qW;simp only;rw[jN,if_neg hl]
def MV.qT{m:MV}(h:2<=m.calls.length):m.pop.ah=nth m.calls (m.calls.length-1-1):=by show nth (m.calls.take (m.calls.length-1)) ((m.calls.take (m.calls.length-1)).length-1)=_;rw[List.length_take,show min (m.calls.length-1) m.calls.length=m.calls.length-1 from jB,gO _ _ _ jB]
def yt(p:af)(n:Nat)(a k:Int):gk p (n+1) a k=iI 1 a::(
  if(ao p a).kind=10\/(ao p a).kind=11 then jx p n (nth (ao p a).l 0) (k+1)++[iI 6 (nth p.slots a.toNat)]
  else if(ao p a).kind=12 then bo p n (nth (ao p a).l 0) (k+1)++bo p n (nth (ao p a).l 1) (k+1+(bo p n (nth (ao p a).l 0) (k+1)).length)++[iI 12 (nth p.slots a.toNat)]
  else if(ao p a).kind=13 then cF p n (nth (ao p a).l 0) (k+1)++[iI 23 0]
  else if(ao p a).kind=14 then bo p n (nth (ao p a).l 0) (k+1)++[iI 15 0]
  else if(ao p a).kind=17 then(if(ao p a).l.length=0 then[iI 22 0]else bo p n (nth (ao p a).l 0) (k+1)++[iI 21 0])
  else qW p n (fun b f=>bv (gk p n) f (ao p b).l []) a (k+1)):=rfl
def uk(p:af)(n:Nat)(a k:Int):jx p n a k=(if(ao p a).kind=19 then[iI 14 0]else if(ao p a).kind=20 then bo p n (nth (ao p a).l 0) k++[iI 13 0]else if(ao p a).kind=21 then cF p n a k else bo p n a k):=rfl
theorem mf{p:af}(ht:aR p.aa):∀(n:Nat) (a k:Int) (lo:Nat),0<=a->a.toNat<p.aa.nodes.length->cR (bX p.aa.nodes a)->aL p.aa.nodes lo (ao p a).l a.toNat->(bo p n a k).length+4*lo<=4*(a.toNat+1)
 |0,a,k,lo,h0,hl,hk,hc=>by have:=hc.le;show 0+_<=_;omega
 |n+1,a,k,lo,h0,hl,hk,hc=>by
  have Uq:=hc.le;have sh:=(ht.shape a.toNat hl).1;have UY:cR (ao p a).kind:=hk;unfold cR at UY;rw[l9];have one:∀x,(ao p a).l=[x]->cR (bX p.aa.nodes x)->(bo p n (nth (ao p a).l 0) k).length+1+4*lo<=4*(a.toNat+1):=fun x u' hx=>by rw[u']at hc;obtain⟨c1,c2,c3,c4,c5⟩:=kK hc;have:=mf ht n x k lo c1 jB hx c5;rw[u'];show(bo p n x k).length+1+_<=_;omega
  have Vj:(ao p a).kind=1\/(ao p a).kind=2\/(ao p a).kind=3\/(ao p a).kind=4\/(ao p a).kind=5\/(ao p a).kind=6\/(ao p a).kind=7\/(ao p a).kind=8\/(ao p a).kind=9:=jB;rcases Vj with e|e|e|e|e|e|e|e|e<;>simp only[e,Int.reduceEq,↓reduceIte,List.length_append,List.length_cons,List.length_nil]
  ·omega
  ·omega
  ·omega
  ·omega
  ·obtain⟨x,u',hx⟩:=sh.one (.inl e);have:=one x u' hx;omega
  ·obtain⟨x,u',hx⟩:=sh.one (by have e:(nth p.aa.nodes a.toNat).kind=6:=e;omega);have:=one x u' hx;omega
  ·obtain⟨x,u',hx⟩:=sh.one (by have e:(nth p.aa.nodes a.toNat).kind=7:=e;omega);have:=one x u' hx;omega
  ·obtain⟨x,u',hx⟩:=sh.one (by have e:(nth p.aa.nodes a.toNat).kind=8:=e;omega);have:=one x u' hx;omega
  ·obtain⟨x,y,u',hx,hy⟩:=sh.two (.inl e);have u':(ao p a).l=[x,y]:=u';rw[u']at hc;obtain⟨c1,c2,c3,c4,c5,c6⟩:=kI hc;obtain⟨d1,d2,d3,d4,d5⟩:=kK c6;have e1:=fun k=>mf ht n x k lo c1 jB hx c5
   have e2:=fun k=>mf ht n y k (x.toNat+1) d1 jB hy d5
   rw[u',show nth [x,y] 0=x from rfl,show nth [x,y] 1=y from rfl];split
   ·simp only[List.length_append,List.length_cons,List.length_nil];have:=e1 k;have:=e2 (k+(bo p n x k).length);omega
   ·simp only[List.length_append,List.length_cons,List.length_nil];have:=e1 k;have:=e2 (k+(bo p n x k).length+1);omega
theorem wI{p:af}{f:Int->Int->List ay}:∀(L:UG) (k:Int) (lo hi:Nat),aL p.aa.nodes lo L hi->(∀x∈L,∀k lo,aL p.aa.nodes lo (ao p x).l x.toNat->(f x k).length+4*lo<=4*(x.toNat+1))->(bv f k L []).length+4*lo<=4*hi
 |[],k,lo,hi,hc,h=>by cases hc;show 0+_<=_;omega
 |x::L,k,lo,hi,hc,h=>by
  show(bv f k L ([]++f x (k+((0:Nat):Int)))).length+_<=_;rw[vn,List.nil_append,List.length_append];obtain⟨c1,c2,c3,c4,c5,c6⟩:=kI hc;have h1:=h x jE (k+((0:Nat):Int)) lo c5;have h2:=wI L (k+(f x (k+((0:Nat):Int))).length) _ hi c6 fun y hy=>h y (by simp[hy])
  omega
def Bt(ht:aR p.aa)(n:Nat)(k:Int)(lo:Nat)(hl:a.toNat<p.aa.nodes.length)(hk:(ao p a).kind=21)(hc:aL p.aa.nodes lo (ao p a).l a.toNat):(cF p n a k).length+4*lo<=4*(a.toNat+1):=by
 have YG:=ht.shape a.toNat hl;have:=wI (f:=bo p n) (ao p a).l k lo a.toNat hc fun x hx k lo XT=>by have hb:=YG.2.1 x hx;exact mf ht n x k lo hb.1 jB (YG.1.call hk x hx) XT
 unfold cF;rw[List.length_append,List.length_singleton];omega
def DQ(ht:aR p.aa)(n:Nat)(k:Int)(lo:Nat)(h0:0<=a)(hl:a.toNat<p.aa.nodes.length)(hk:fv (bX p.aa.nodes a))(hc:aL p.aa.nodes lo (ao p a).l a.toNat):(jx p n a k).length+4*lo<=4*(a.toNat+1):=by
 have Uq:=hc.le;rw[uk];split
 ·simp only[List.length_cons,List.length_nil];omega
 rename_i e19;split
 ·rename_i e;obtain⟨x,u',hx⟩:=(ht.shape a.toNat hl).1.one (by have e:(nth p.aa.nodes a.toNat).kind=20:=e;omega);have u':(ao p a).l=[x]:=u';rw[u']at hc;obtain⟨c1,c2,c3,c4,c5⟩:=kK hc;have:=mf ht n x k lo c1 jB hx c5;rw[u',List.length_append,List.length_singleton];show(bo p n x k).length+1+_<=_;omega
 rename_i e20;split
 ·rename_i e;exact Bt ht n k lo hl e hc
 ·rename_i e21;refine mf ht n a k lo h0 hl ?_ hc;rcases hk with hk|hk|hk|hk
  ·exact hk
  ·exact(e19 hk).elim
  ·exact(e20 hk).elim
  ·exact(e21 hk).elim
theorem BF{p:af}(ht:aR p.aa):∀(n:Nat) (a k:Int) (lo:Nat),0<=a->a.toNat<p.aa.nodes.length->fC (bX p.aa.nodes a)->aL p.aa.nodes lo (ao p a).l a.toNat->(gk p n a k).length+4*lo<=4*(a.toNat+1)
 |0,a,k,lo,h0,hl,hk,hc=>by have:=hc.le;show 0+_<=_;omega
 |n+1,a,k,lo,h0,hl,hk,hc=>by
  have Uq:=hc.le;have sh:=(ht.shape a.toNat hl).1;have UY:fC (ao p a).kind:=hk;unfold fC at UY;rw[yt,List.length_cons];have blk:∀(b:Int) (lo:Nat) (k:Int),0<=b->b.toNat<p.aa.nodes.length->bX p.aa.nodes b=18->aL p.aa.nodes lo (ao p b).l b.toNat->(bv (gk p n) k (ao p b).l []).length+4*lo<=4*b.toNat:=fun b lo k b0 b1 b2 b3=>
   wI (ao p b).l k lo b.toNat b3 fun x hx k lo XT=>by have hb:=(ht.shape b.toNat b1).2.1 x hx;exact BF ht n x k lo hb.1 jB ((ht.shape b.toNat b1).1.block b2 x hx) XT
  split
  ·rename_i e;obtain⟨x,u',hx⟩:=sh.right e;have u':(ao p a).l=[x]:=u';rw[u']at hc;obtain⟨c1,c2,c3,c4,c5⟩:=kK hc;have:=DQ ht n (k+1) lo c1 jB hx c5;rw[u',List.length_append,List.length_singleton];show(jx p n x (k+1)).length+1+1+_<=_;omega
  split
  ·rename_i e;obtain⟨x,y,u',hx,hy⟩:=sh.two (.inr e);have u':(ao p a).l=[x,y]:=u';rw[u']at hc;obtain⟨c1,c2,c3,c4,c5,c6⟩:=kI hc;obtain⟨d1,d2,d3,d4,d5⟩:=kK c6;have e1:=mf ht n x (k+1) lo c1 jB hx c5;have e2:=mf ht n y (k+1+(bo p n x (k+1)).length) (x.toNat+1) d1 jB hy d5;rw[u',show nth [x,y] 0=x from rfl,show nth [x,y] 1=y from rfl];simp only[List.length_append,List.length_cons,List.length_nil];omega
  split
  ·rename_i e;obtain⟨x,u',hx⟩:=sh.tx e;have u':(ao p a).l=[x]:=u';rw[u']at hc;obtain⟨c1,c2,c3,c4,c5⟩:=kK hc;have:=Bt ht n (k+1) lo jB hx c5;rw[u',List.length_append,List.length_singleton];show(cF p n x (k+1)).length+1+1+_<=_;omega
  split
  ·rename_i e;obtain⟨x,u',hx⟩:=sh.one (by have e:(nth p.aa.nodes a.toNat).kind=14:=e;omega);have u':(ao p a).l=[x]:=u';rw[u']at hc;obtain⟨c1,c2,c3,c4,c5⟩:=kK hc;have:=mf ht n x (k+1) lo c1 jB hx c5;rw[u',List.length_append,List.length_singleton];show(bo p n x (k+1)).length+1+1+_<=_;omega
  split
  ·rename_i e;rcases sh.ret e with u'|⟨x,u',hx⟩
   ·have u':(ao p a).l=[]:=u';rw[u',if_pos (show([]:UG).length=0 from rfl)];simp only[List.length_cons,List.length_nil];omega
   ·have u':(ao p a).l=[x]:=u';rw[u']at hc;obtain⟨c1,c2,c3,c4,c5⟩:=kK hc;have:=mf ht n x (k+1) lo c1 jB hx c5;rw[u',if_neg jE,List.length_append,List.length_singleton];show(bo p n x (k+1)).length+1+1+_<=_;omega
  ·rename_i n1 n2 n3 n4 n5;by_cases k16:(ao p a).kind=16
   ·rw[Hi k16];obtain⟨x,b,u',hx,hb⟩:=sh.eG k16;have u':(ao p a).l=[x,b]:=u';rw[u']at hc;obtain⟨c1,c2,c3,c4,c5,c6⟩:=kI hc;obtain⟨d1,d2,d3,d4,d5⟩:=kK c6;rw[u',show nth [x,b] 0=x from rfl,show nth [x,b] 1=b from rfl];have e1:=mf ht n x (k+1) lo c1 jB hx c5;have e2:=blk b (x.toNat+1) (k+1+(bo p n x (k+1)).length+1) d1 jB hb d5;simp only[List.length_append,List.length_cons,List.length_nil];omega
   have k15:(ao p a).kind=15:=jB;obtain⟨x,b,hx,hb,u'⟩:=sh.lE k15;rcases u' with u'|⟨d,u',hd⟩
   ·have u':(ao p a).l=[x,b]:=u';rw[JB k15 (by rw[u'];simp)];rw[u']at hc;obtain⟨c1,c2,c3,c4,c5,c6⟩:=kI hc;obtain⟨d1,d2,d3,d4,d5⟩:=kK c6;rw[u',show nth [x,b] 0=x from rfl,show nth [x,b] 1=b from rfl];have e1:=mf ht n x (k+1) lo c1 jB hx c5;have e2:=blk b (x.toNat+1) (k+1+(bo p n x (k+1)).length+1) d1 jB hb d5;simp only[List.length_append,List.length_cons,List.length_nil];omega
   ·have u':(ao p a).l=[x,b,d]:=u';rw[J7 k15 (by rw[u'];rfl)];rw[u']at hc;obtain⟨c1,c2,c3,c4,c5,c6⟩:=kI hc;obtain⟨d1,d2,d3,d4,d5,d6⟩:=kI c6;obtain⟨g1,g2,g3,g4,g5⟩:=kK d6;rw[u',show nth [x,b,d] 0=x from rfl,show nth [x,b,d] 1=b from rfl,show nth [x,b,d] 2=d from rfl];have e1:=mf ht n x (k+1) lo c1 jB hx c5;have e2:=blk b (x.toNat+1) (k+1+(bo p n x (k+1)).length+1) d1 jB hb d5;have e3:=blk d (b.toNat+1) (k+1+(bo p n x (k+1)).length+1+(bv (gk p n) (k+1+(bo p n x (k+1)).length+1) (ao p b).l []).length+1) g1 jB hd g5;simp only[List.length_append,List.length_cons,List.length_nil];omega
def fj(p:af)(i:Nat):aI:=(p.aa.aw.take i).foldl (Ar p) ⟨[],[]⟩
def yL(p:af)(i:Nat)(h:i<p.aa.aw.length):fj p (i+1)=Ar p (fj p i) (nth p.aa.aw i):=by unfold fj;rw[K2 _ _ h,List.foldl_append];rfl
theorem yq(p:af):∀i,i<=p.aa.aw.length->(fj p i).entry.length=i
 |0,_=>rfl
 |i+1,h=>by rw[yL p i jB];show((fj p i).entry++[_]).length=_;rw[List.length_append,yq p i jB];rfl
theorem Gv(p:af)(j:Nat):∀i,j<i->i<=p.aa.aw.length->∃k:Nat,nth (fj p i).entry j=(k:Int)/\bJ (fj p i).ins k (Ka p (mO p) k (nth p.aa.aw j).body++[iI 22 (nth p.aa.aw j).ret])
 |0,h,_=>by omega
 |i+1,h,hi=>by
  rw[yL p i jB];have hl:=yq p i jB;by_cases e:j<i
  ·obtain⟨k,h1,post,h2⟩:=Gv p j i e jB;refine⟨k,?_,post++(qq p (mO p) (nth p.aa.aw i).body (fj p i).ins.length++[iI 22 (nth p.aa.aw i).ret]),?_⟩
   ·show nth ((fj p i).entry++[_]) j=_;rw[pZ jB];exact h1
   ·show((fj p i).ins++_++_).drop k=_;have hk:k<=(fj p i).ins.length:=Classical.byContradiction fun hk=>by
     rw[List.drop_eq_nil_of_le jB]at h2;have:=congrArg List.length h2;simp at this
    rw[List.append_assoc,List.drop_append_of_le_length hk,h2,List.append_assoc]
  ·have:j=i:=jB;subst this;refine⟨(fj p j).ins.length,?_,[],?_⟩
   ·show nth ((fj p j).entry++[((fj p j).ins.length:Int)]) j=_;have:=qc (fj p j).entry ((fj p j).ins.length:Int);rw[hl]at this;exact this
   ·show((fj p j).ins++qq p (mO p) (nth p.aa.aw j).body (fj p j).ins.length++[iI 22 (nth p.aa.aw j).ret]).drop (fj p j).ins.length=_;rw[List.append_assoc,List.drop_left,List.append_nil];rfl
theorem BZ{p:af}(hs:fX p):∀i,i<=p.aa.aw.length->(fj p i).ins.length<=2000*i
 |0,_=>Nat.le_refl _
 |i+1,h=>by
  have ih:=BZ hs i jB;rw[yL p i jB];have VW:=o8 hs.ok.aa (k:=i) jB;have hc:=(hs.aw i jB).chain;have hm:=hs.ok.aa.many;have X9:=hs.ok.aa.body _ (ff (l:=p.aa.aw) (k:=i) jB);have YG:=hs.ok.aa.shape (nth p.aa.aw i).body.toNat (by have:=VW.1;have:=VW.2;omega);have hb:=wI (p:=p) (f:=gk p (mO p)) (ao p (nth p.aa.aw i).body).l (fj p i).ins.length (kS p.aa i) (nth p.aa.aw i).body.toNat hc fun x hx k lo XT=>by have hb:=YG.2.1 x hx;have:=VW.1;have:=VW.2;exact BF hs.ok.aa _ x k lo hb.1 jB (YG.1.block X9 x hx) XT
  show((fj p i).ins++qq p (mO p) (nth p.aa.aw i).body (fj p i).ins.length++[iI 22 (nth p.aa.aw i).ret]).length<=_;rw[List.length_append,List.length_append,List.length_singleton];have:=VW.1;have:=VW.2;unfold qq;have:(nth p.aa.aw i).body.toNat<=300:=jB;omega
def rX(hs:fX p):tM p (bz p):=by
 have e:bz p=fj p p.aa.aw.length:=by unfold bz fj;rw[List.take_length]
 have hf:=hs.ok.aa.aw;rw[e];exact⟨yq p _ jl,fun j hj=>Gv p j _ hj jl,by have:=BZ hs _ (Nat.le_refl p.aa.aw.length);omega⟩
def l4(p:af)(C:aI):MV:=⟨[MV.iH p C (ii p) []],0,[],0,[],0,0,0⟩
theorem Ij:∀(l:List bI) (i:Int) (x:bI),kD (l++[x]) i=kD l i++[⟨x.name,x.ty,i+l.length⟩]
 |[],i,x=>by simp[kD]
 |y::l,i,x=>by
  have:=Ij l (i+1) x;simp only[List.cons_append,kD,this,List.length_cons];congr 3
  simp only[bE.mk.injEq,true_and];omega
theorem xM:∀(l:List bI) (i:Int),(kD l i).length=l.length
 |[],i=>rfl
 |y::l,i=>by simp only[kD,List.length_cons,xM l (i+1)]
def zD(h:pJ p)(b:Int):(ao p b).l.length<=300:=by
 have hm:=h.aa.many;by_cases hb:b.toNat<p.aa.nodes.length
 ·obtain⟨lo,hc⟩:=(h.aa.shape b.toNat hb).2.2;have:=Ci hc;show(nth p.aa.nodes b.toNat).l.length<=300;omega
 ·unfold ao nth;rw[List.getD_eq_getElem?_getD,List.getElem?_eq_none jB];exact Nat.zero_le _
end Go.Proofs.YtijdhbokcdpklaaGreatDoor
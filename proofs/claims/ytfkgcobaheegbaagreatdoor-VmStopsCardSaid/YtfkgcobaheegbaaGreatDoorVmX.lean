/- Lemmas. No conditions. -/
import Derived.Test.YtfkgcobaheegbaaGreatDoorWd
set_option linter.all false
set_option maxHeartbeats 4000000
namespace Go.Gd
open Go
def iI(op a:Int):au:=⟨op,a,0,sE⟩
def lays(f:Int->Int->List au)(from_:Int):List Int->List au->List au
 |[],out=>out
 |x::l,out=>lays f from_ l (out++f x (from_+out.length))
def jt(s:ByteArray):Int:=if s=(⟨#[38,38]⟩:ByteArray)then 18 else if s=(⟨#[124,124]⟩:ByteArray)then 19 else 7
def aR(p:ab):Nat->Int->Int->List au
 |0,_,_=>[]
 |n+1,a,from_=>
  let nd:=ai p a
  let x:=aR p n (nth nd.l 0) from_
  if nd.kind=1 then[iI 2 nd.n]
  else if nd.kind=2 then[iI 3 nd.n]
  else if nd.kind=3 then[⟨4,0,0,nd.name⟩]
  else if nd.kind=4 then[⟨5,nth p.slots a.toNat,nth p.types a.toNat,sE⟩]
  else if nd.kind=5 then x++[iI 11 (nth p.slots a.toNat)]
  else if nd.kind=6 then x++[iI 10 0]
  else if nd.kind=7 then x++[iI 8 0]
  else if nd.kind=8 then x++[iI 9 0]
  else if jt nd.name=7 then x++aR p n (nth nd.l 1) (from_+x.length)++[⟨7,0,0,nd.name⟩]
  else
   let y:=aR p n (nth nd.l 1) (from_+x.length+1)
   x++[iI (jt nd.name) (from_+x.length+1+y.length)]++y
def lB(p:ab):Nat:=p.aa.nodes.length
def Cd(p:ab)(a:Int):Int:=iZ aX.name (ai p a).name p.aa.ao 0 (-1)
def cC(p:ab)(n:Nat)(a from_:Int):List au:=lays (aR p n) from_ (ai p a).l []++[⟨20,Cd p a,(ai p a).l.length,sE⟩]
def je(p:ab)(n:Nat)(a from_:Int):List au:=
 if(ai p a).kind=19 then[iI 14 0]
 else if(ai p a).kind=20 then aR p n (nth (ai p a).l 0) from_++[iI 13 0]
 else if(ai p a).kind=21 then cC p n a from_
 else aR p n a from_
def px(p:ab)(n:Nat)(bl:Int->Int->List au)(a from_:Int):List au:=
 let nd:=ai p a
 let x:=aR p n (nth nd.l 0) from_
 let b:=bl (nth nd.l 1) (from_+x.length+1)
 if nd.kind=16 then x++[iI 17 (from_+x.length+1+(b.length+1))]++(b++[iI 16 (from_-1)])
 else if nd.l.length=3 then
  let c:=bl (nth nd.l 2) (from_+x.length+1+b.length+1)
  x++[iI 17 (from_+x.length+1+(b.length+1))]++(b++[iI 16 (from_+x.length+1+b.length+1+c.length)])++c
 else x++[iI 17 (from_+x.length+1+b.length)]++b
def gN(p:ab):Nat->Int->Int->List au
 |0,_,_=>[]
 |n+1,a,from_=>
  let nd:=ai p a
  let at_:=from_+1
  let x:=aR p n (nth nd.l 0) at_
  iI 1 a::(
   if nd.kind=10\/nd.kind=11 then je p n (nth nd.l 0) at_++[iI 6 (nth p.slots a.toNat)]
   else if nd.kind=12 then x++aR p n (nth nd.l 1) (at_+x.length)++[iI 12 (nth p.slots a.toNat)]
   else if nd.kind=13 then cC p n (nth nd.l 0) at_++[iI 23 0]
   else if nd.kind=14 then x++[iI 15 0]
   else if nd.kind=17 then(if nd.l.length=0 then[iI 22 0]else x++[iI 21 0])
   else px p n (fun b f=>lays (gN p n) f (ai p b).l []) a at_)
def qi(p:ab)(n:Nat)(b from_:Int):List au:=lays (gN p n) from_ (ai p b).l []
def Ba(p:ab)(c:aE)(f:aX):aE:=⟨c.ins++qi p (lB p) f.body c.ins.length++[iI 22 f.ret],c.entry++[(c.ins.length:Int)]⟩
def gU(p:ab):aE:=p.aa.ao.foldl (Ba p) ⟨[],[]⟩
structure MC where
 fn:Int
 at_:Int
 mark:Int
 slots:List ak
 stack:List ak
 bo:Nat
 deriving Inhabited
structure MV where
 calls:List MC
 bo:Nat
 heap:List (List Int)
 in_:Int
 ax:List ByteArray
 status:Int
 aZ:Int
 time:Int
namespace MC
def push(c:MC)(v:ak):MC:={ c with stack:=c.stack++[v],bo:=c.bo-1 }
def last(c:MC):ak:=nth c.stack (c.stack.length-1)
def cut(c:MC)(n:Nat):MC:={ c with stack:=c.stack.take (c.stack.length-n),bo:=c.bo+n }
def jump(c:MC)(a:Int):MC:={ c with at_:=a }
def back(c:MC):MC:={ c with at_:=c.mark,stack:=[],bo:=0 }
end MC
namespace MV
def af(m:MV):MC:=nth m.calls (m.calls.length-1)
def aQ(m:MV)(c:MC):MV:={ m with calls:=m.calls.set (m.calls.length-1) c }
def push(m:MV)(v:ak):MV:=m.aQ (m.af.push v)
def cut(m:MV)(n:Nat):MV:=m.aQ (m.af.cut n)
def stops(m:MV)(status aZ:Int):MV:={ m.aQ m.af.back with status:=status,aZ:=aZ }
def dX(m:MV)(r:ak×Int):MV:=if r.2≠0 then m.stops 3 r.2 else m.push r.1
def pop(m:MV):MV:={ m with calls:=m.calls.take (m.calls.length-1),bo:=m.bo+1 }
def ends(m:MV)(v:ak):MV:=if m.calls.length<=1 then{ m.pop with status:=2 }else m.pop.push v
def iJ(C:aE)(fn:Int):Int:=nth C.entry fn.toNat
def io(p:ab)(C:aE)(fn:Int)(args:List ak):MC:=⟨fn,iJ C fn,iJ C fn,args++List.replicate ((nth p.size fn.toNat)-args.length).toNat v0,[],0⟩
def cF(m:MV)(p:ab)(C:aE)(fn:Int)(args:List ak):MV:={ m with calls:=m.calls++[io p C fn args],bo:=m.bo-1 }
def bq(h:List (List Int))(n:Int):List Int:=if n<1\/(h.length:Int)<n then[]else nth h (n-1).toNat
def ins(m:MV)(p:ab)(C:aE)(inp:List Int)(x:au):MV:=
 let c:=m.af
 let l:=c.last
 let k:=(c.cut 1).last
 if x.op=2 then m.push (vI x.a)
 else if x.op=3 then m.push (vB (decide (x.a=1)))
 else if x.op=4 then m.push (vT x.s)
 else if x.op=5 then m.push (dp c.slots x.a x.b)
 else if x.op=6 then m.aQ { c.cut 1 with slots:=c.slots.set x.a.toNat l }
 else if x.op=7 then(m.cut 2).dX (kN x.s k l)
 else if x.op=8 then(m.cut 1).push (kQ (⟨#[45]⟩:ByteArray) l)
 else if x.op=9 then(m.cut 1).push (kQ (⟨#[33]⟩:ByteArray) l)
 else if x.op=10 then(m.cut 1).push (vI (if l.ty=4 then((bq m.heap l.n).length:Int)else(l.s.size:Int)))
 else if x.op=11 then
  let L:=bq m.heap (dp c.slots x.a 4).n
  if l.n<0\/(L.length:Int)<=l.n then(m.cut 1).stops 3 2 else(m.cut 1).push (vI (nth L l.n.toNat))
 else if x.op=12 then
  let a:=(dp c.slots x.a 4).n
  if k.n<0\/((bq m.heap a).length:Int)<=k.n then(m.cut 2).stops 3 2
  else{ m.cut 2 with heap:=m.heap.set (a-1).toNat ((nth m.heap (a-1).toNat).set k.n.toNat l.n) }
 else if x.op=13 then
  if l.n<0\/16<l.n then(m.cut 1).stops 3 7
  else if 40<ga m.heap+l.n+1 then(m.cut 1).stops 3 4
  else{ (m.cut 1).push ⟨4,m.heap.length+1,sE⟩with heap:=m.heap++[List.replicate l.n.toNat 0] }
 else if x.op=14 then
  if(inp.length:Int)<=m.in_ then m.stops 1 0 else{ m.push (vI (nth inp m.in_.toNat))with in_:=m.in_+1 }
 else if x.op=15 then
  if 24<=m.ax.length then m.stops 3 5 else{ m.cut 1 with ax:=m.ax++[kn l] }
 else if x.op=16 then m.aQ (c.jump x.a)
 else if x.op=17 then(if l.n=0 then m.aQ ((c.cut 1).jump x.a)else m.cut 1)
 else if x.op=18\/x.op=19 then(if(l.n=1<->x.op=19)then m.aQ (c.jump x.a)else m.cut 1)
 else if x.op=20 then
  let m1:=m.cut x.b.toNat
  if 8<=m.calls.length then m1.stops 3 3 else m1.cF p C x.a (c.stack.drop (c.stack.length-x.b.toNat))
 else if x.op=21 then(m.cut 1).ends l
 else if x.op=22 then m.ends (vZ x.a)
 else if x.op=23 then m.cut 1
 else m
def bg(m:MV)(C:aE):au:=nth C.ins m.af.at_.toNat
def one(m:MV)(p:ab)(C:aE)(inp:List Int):MV:=(m.aQ (m.af.jump (m.af.at_+1))).ins p C inp (m.bg C)
structure cJ(m:MV)(p:ab)(C:aE):Prop where
 calls:1<=m.calls.length
 nb:m.calls.length<=8
 a0:0<=m.af.at_
 a1:m.af.at_<C.ins.length
 one:(m.bg C).op=6\/(m.bg C).op=8\/(m.bg C).op=9\/(m.bg C).op=10\/(m.bg C).op=11\/(m.bg C).op=13\/(m.bg C).op=15\/(m.bg C).op=17\/(m.bg C).op=18\/(m.bg C).op=19\/(m.bg C).op=21\/(m.bg C).op=23->1<=m.af.stack.length
 two:(m.bg C).op=7\/(m.bg C).op=12->2<=m.af.stack.length
 slot:(m.bg C).op=5\/(m.bg C).op=6\/(m.bg C).op=11\/(m.bg C).op=12->0<=(m.bg C).a/\(m.bg C).a<m.af.slots.length
 bool:(m.bg C).op=17\/(m.bg C).op=18\/(m.bg C).op=19->m.af.last.n=0\/m.af.last.n=1
 len:(m.bg C).op=10->m.af.last.ty=3\/m.af.last.ty=4
 call:(m.bg C).op=20->0<=(m.bg C).b/\(m.bg C).b<=m.af.stack.length/\(m.bg C).b<=3/\0<=(m.bg C).a/\(m.bg C).a<C.entry.length/\(m.bg C).a<p.size.length/\0<=nth p.size (m.bg C).a.toNat/\nth p.size (m.bg C).a.toNat<=24/\(m.bg C).b<=nth p.size (m.bg C).a.toNat
 op:1<=(m.bg C).op/\(m.bg C).op<=23
 word:(m.bg C).op=15->cY m.af.last.n
 j6:∀v∈m.af.stack,v.s.size<=40
 deep:m.af.stack.length<=1000
end MV
def bJ(C:List au)(k:Nat)(c:List au):Prop:=∃post,C.drop k=c++post
variable{C:List au}{k:Nat}
theorem bJ.app{a b:List au}(h:bJ C k (a++b)):bJ C k a/\bJ C (k+a.length) b:=by obtain⟨post,e⟩:=h;refine⟨⟨b++post,by rw[e,List.append_assoc]⟩,⟨post,?_⟩⟩;rw[<-List.drop_drop,e,List.append_assoc,List.drop_left]
theorem bJ.head{x:au}{c:List au}(h:bJ C k (x::c)):k<C.length/\nth C k=x/\bJ C (k+1) c:=by
 obtain⟨post,e⟩:=h;have hk:k<C.length:=Classical.byContradiction fun h=>by rw[List.drop_eq_nil_of_le jB]at e;cases e
 refine⟨hk,?_,⟨post,?_⟩⟩
 ·rw[List.drop_eq_getElem_cons hk]at e;rw[dN hk];exact(List.cons.inj e).1
 ·rw[List.drop_eq_getElem_cons hk]at e;exact(List.cons.inj e).2
theorem bJ.last{x:au}{c:List au}(h:bJ C k (c++[x])):bJ C k c/\k+c.length<C.length/\nth C (k+c.length)=x:=
 ⟨h.app.1,h.app.2.head.1,h.app.2.head.2.1⟩
theorem vH(f:Int->Int->List au):∀(L:List Int) (k:Int) (out:List au),lays f k L out=out++lays f (k+out.length) L []
 |[],k,out=>by simp[lays]
 |x::L,k,out=>by show lays f k L (out++f x (k+out.length))=out++lays f (k+out.length) L ([]++f x (k+out.length+(0:Nat)));rw[vH f L k,vH f L (k+out.length) _];simp only[List.nil_append,List.length_append,List.append_assoc,Int.natCast_add,Int.natCast_zero,Int.add_zero,Int.add_assoc]
theorem xl(f:Int->Int->List au):∀(A B:List Int) (k:Int) (out:List au),lays f k (A++B) out=lays f k B (lays f k A out)
 |[],B,k,out=>rfl
 |x::A,B,k,out=>xl f A B k _
theorem Em{f g:Int->Int->List au}:∀(L:List Int) (k:Int) (out:List au),(∀x∈L,∀j,f x j=g x j)->lays f k L out=lays g k L out
 |[],_,_,_=>rfl
 |x::L,k,out,h=>by show lays f k L (out++f x _)=lays g k L (out++g x _);rw[h x jE,Em L k _ fun y hy=>h y (by simp[hy])]
def mT(f:Int->Int->List au)(k:Nat)(L:List Int)(i:Nat):Nat:=k+(lays f k (L.take i) []).length
theorem Ix(f:Int->Int->List au)(k:Nat)(L:List Int)(i:Nat)(h:i<L.length):mT f k L (i+1)=mT f k L i+(f (nth L i) (mT f k L i)).length:=by unfold mT;rw[show L.take (i+1)=L.take i++[nth L i] by rw[List.take_succ,List.getElem?_eq_getElem h,dN h];rfl,xl];show k+(lays f k (L.take i) []++f (nth L i) _).length=_;rw[List.length_append,Nat.add_assoc,Int.natCast_add]
theorem OZ(f:Int->Int->List au)(k:Nat)(L:List Int):mT f k L L.length=k+(lays f k L []).length:=by unfold mT;rw[List.take_length]
theorem y8{f:Int->Int->List au}{L:List Int}(h:bJ C k (lays f k L [])){i:Nat}(hi:i<L.length):bJ C (mT f k L i) (f (nth L i) (mT f k L i)):=by
 have e:L=L.take i++nth L i::L.drop (i+1):=by rw[dN hi,List.getElem_cons_drop,List.take_append_drop]
 rw[e,xl]at h;have h2:bJ C k (lays f k (L.drop (i+1)) (lays f k (L.take i) []++f (nth L i) (k+(lays f k (L.take i) []).length))):=h;rw[vH]at h2;have h3:=h2.app.1.app.2;unfold mT;rw[Int.natCast_add];exact h3
namespace MV
variable{M:MV}
theorem aV(h:1<=M.calls.length)(c:MC):(M.aQ c).af=c:=by show nth (M.calls.set _ c) ((M.calls.set _ c).length-1)=c;rw[List.length_set];exact(Go.Gd.bh _ _ _ _ jB).trans (if_pos rfl)
theorem cV(M:MV)(c d:MC):(M.aQ c).aQ d=M.aQ d:=by show({ M with calls:=(M.calls.set _ c).set ((M.calls.set _ c).length-1) d }:MV)=_;rw[List.length_set,List.set_set];rfl
theorem bB(M:MV)(c:MC):(M.aQ c).calls.length=M.calls.length:=by show(M.calls.set _ c).length=_;simp
theorem re(M:MV)(h:1<=M.calls.length):M.aQ M.af=M:=by show({ M with calls:=M.calls.set (M.calls.length-1) (nth M.calls (M.calls.length-1)) }:MV)=M;rw[dN jB,List.set_getElem_self]
theorem ii(M:MV)(c:MC):(M.aQ c).heap=M.heap:=rfl
def fL(M:MV)(c:MC)(s t:Int):MV:={ M.aQ c.back with status:=s,aZ:=t }
theorem dB(h:1<=M.calls.length)(c:MC)(s t:Int):(M.aQ c).stops s t=M.fL c s t:=by unfold stops fL;rw[aV h,cV]
theorem eH(h:1<=M.calls.length)(c:MC)(v:ak):(M.aQ c).push v=M.aQ (c.push v):=by unfold push;rw[aV h,cV]
theorem cM(h:1<=M.calls.length)(c:MC)(n:Nat):(M.aQ c).cut n=M.aQ (c.cut n):=by unfold cut;rw[aV h,cV]
end MV
section
variable (m:MV)(p:ab)(C:aE)(inp:List Int)(a b:Int)(s:ByteArray)
theorem MV.rf:m.ins p C inp (iI 2 a)=m.push (vI a):=rfl
theorem MV.pQ:m.ins p C inp (iI 3 a)=m.push (vB (decide (a=1))):=rfl
theorem MV.pG:m.ins p C inp ⟨4,a,b,s⟩=m.push (vT s):=rfl
theorem MV.pC:m.ins p C inp ⟨5,a,b,s⟩=m.push (dp m.af.slots a b):=rfl
theorem MV.kZ:m.ins p C inp (iI 6 a)=m.aQ { m.af.cut 1 with slots:=m.af.slots.set a.toNat m.af.last }:=rfl
theorem MV.qO:m.ins p C inp ⟨7,a,b,s⟩=(m.cut 2).dX (kN s (m.af.cut 1).last m.af.last):=rfl
theorem MV.qJ:m.ins p C inp (iI 8 a)=(m.cut 1).push (kQ (⟨#[45]⟩:ByteArray) m.af.last):=rfl
theorem MV.qL:m.ins p C inp (iI 9 a)=(m.cut 1).push (kQ (⟨#[33]⟩:ByteArray) m.af.last):=rfl
theorem MV.qQ:m.ins p C inp (iI 10 a)=(m.cut 1).push (vI (if m.af.last.ty=4 then((bq m.heap m.af.last.n).length:Int)else(m.af.last.s.size:Int))):=rfl
theorem MV.n8:m.ins p C inp (iI 11 a)=if m.af.last.n<0\/((bq m.heap (dp m.af.slots a 4).n).length:Int)<=m.af.last.n then(m.cut 1).stops 3 2 else(m.cut 1).push (vI (nth (bq m.heap (dp m.af.slots a 4).n) m.af.last.n.toNat)):=rfl
theorem MV.qM:m.ins p C inp (iI 12 a)=if(m.af.cut 1).last.n<0\/((bq m.heap (dp m.af.slots a 4).n).length:Int)<=(m.af.cut 1).last.n then(m.cut 2).stops 3 2
  else{ m.cut 2 with heap:=m.heap.set ((dp m.af.slots a 4).n-1).toNat ((nth m.heap ((dp m.af.slots a 4).n-1).toNat).set (m.af.cut 1).last.n.toNat m.af.last.n) }:=rfl
theorem MV.qS:m.ins p C inp (iI 13 a)=if m.af.last.n<0\/16<m.af.last.n then(m.cut 1).stops 3 7
  else if 40<ga m.heap+m.af.last.n+1 then(m.cut 1).stops 3 4
  else{ (m.cut 1).push ⟨4,m.heap.length+1,sE⟩with heap:=m.heap++[List.replicate m.af.last.n.toNat 0] }:=rfl
theorem MV.oi:m.ins p C inp (iI 14 a)=if(inp.length:Int)<=m.in_ then m.stops 1 0 else{ m.push (vI (nth inp m.in_.toNat))with in_:=m.in_+1 }:=rfl
theorem MV.ob:m.ins p C inp (iI 15 a)=if 24<=m.ax.length then m.stops 3 5 else{ m.cut 1 with ax:=m.ax++[kn m.af.last] }:=rfl
theorem MV.po:m.ins p C inp (iI 16 a)=m.aQ (m.af.jump a):=rfl
theorem MV.kU:m.ins p C inp (iI 17 a)=if m.af.last.n=0 then m.aQ ((m.af.cut 1).jump a)else m.cut 1:=rfl
theorem MV.nr:m.ins p C inp (iI 18 a)=if m.af.last.n=1 then m.cut 1 else m.aQ (m.af.jump a):=by
 show(if(m.af.last.n=1<->(18:Int)=19)then m.aQ (m.af.jump a)else m.cut 1)=_;by_cases h:m.af.last.n=1
 ·rw[if_pos h,if_neg (fun e=>absurd (e.1 h) jC)]
 ·rw[if_neg h,if_pos ⟨fun e=>(h e).elim,fun e=>absurd e jC⟩]
theorem MV.pL:m.ins p C inp (iI 19 a)=if m.af.last.n=1 then m.aQ (m.af.jump a)else m.cut 1:=by
 show(if(m.af.last.n=1<->(19:Int)=19)then m.aQ (m.af.jump a)else m.cut 1)=_;by_cases h:m.af.last.n=1
 ·rw[if_pos h,if_pos ⟨fun _=>rfl,fun _=>h⟩]
 ·rw[if_neg h,if_neg (fun e=>h (e.2 rfl))]
theorem MV.pi:m.ins p C inp ⟨20,a,b,s⟩=if 8<=m.calls.length then(m.cut b.toNat).stops 3 3 else(m.cut b.toNat).cF p C a (m.af.stack.drop (m.af.stack.length-b.toNat)):=rfl
theorem MV.qB:m.ins p C inp (iI 21 a)=(m.cut 1).ends m.af.last:=rfl
theorem MV.l8:m.ins p C inp (iI 22 a)=m.ends (vZ a):=rfl
theorem MV.qF:m.ins p C inp (iI 23 a)=m.cut 1:=rfl
end
inductive ig(p:ab)(C:aE)(inp:List Int):Nat->MV->MV->Prop
 |refl (m:MV):ig p C inp 0 m m
 |step {n:Nat} {m m':MV} (h0:m.status=0) (h1:(m.bg C).op≠1) (hok:m.cJ p C) (h:ig p C inp n (m.one p C inp) m'):ig p C inp (n+1) m m'
def aS(p:ab)(C:aE)(inp:List Int)(m m':MV):Prop:=∃n,ig p C inp n m m'
theorem aS.refl{p:ab}{C:aE}{inp:List Int}(m:MV):aS p C inp m m:=⟨0,.refl m⟩
theorem ig.trans{p:ab}{C:aE}{inp:List Int}{n:Nat}{a b:MV}(h:ig p C inp n a b):∀{k c},ig p C inp k b c->ig p C inp (n+k) a c:=by
 induction h with
 |refl m=>intro k c hk;rw[Nat.zero_add];exact hk
 |step h0 h1 hok _ ih=>intro k c hk;rw[Nat.add_right_comm];exact .step h0 h1 hok (ih hk)
theorem aS.trans{p:ab}{C:aE}{inp:List Int}{a b c:MV}(h:aS p C inp a b)(k:aS p C inp b c):aS p C inp a c:=by obtain⟨n,h⟩:=h;obtain⟨m,k⟩:=k;exact⟨n+m,h.trans k⟩
theorem aS.ins{p:ab}{C:aE}{inp:List Int}{M m':MV}{c:MC}{k:Nat}{x:au}(h1:1<=M.calls.length)(h8:M.calls.length<=8)(hs:M.status=0)(hk:c.at_=k)(hlt:k<C.ins.length)(hx:nth C.ins k=x)(hx1:x.op≠1)
  (hok:(M.aQ c).cJ p C) (hg:aS p C inp ((M.aQ { c with at_:=(k:Int)+1 }).ins p C inp x) m'):aS p C inp (M.aQ c) m':=by
 obtain⟨n,hg⟩:=hg;have hi:(M.aQ c).bg C=x:=by unfold MV.bg;rw[MV.aV h1,hk,Int.toNat_natCast,hx]
 refine⟨n+1,.step hs (by rw[hi];exact hx1) hok ?_⟩;unfold MV.one;rw[hi,MV.aV h1,MV.cV];unfold MC.jump;rw[hk];exact hg
theorem cJ.pm{p:ab}{C:aE}{M:MV}{c:MC}{x:au}(h1:1<=M.calls.length)(h8:M.calls.length<=8)(hk:c.at_=k)(hlt:k<C.ins.length)(hx:nth C.ins k=x)
  (one:x.op=6\/x.op=8\/x.op=9\/x.op=10\/x.op=11\/x.op=13\/x.op=15\/x.op=17\/x.op=18\/x.op=19\/x.op=21\/x.op=23->1<=c.stack.length)
  (two:x.op=7\/x.op=12->2<=c.stack.length)
  (slot:x.op=5\/x.op=6\/x.op=11\/x.op=12->0<=x.a/\x.a<c.slots.length)
  (bool:x.op=17\/x.op=18\/x.op=19->c.last.n=0\/c.last.n=1)
  (len:x.op=10->c.last.ty=3\/c.last.ty=4)
  (call:x.op=20->0<=x.b/\x.b<=c.stack.length/\x.b<=3/\0<=x.a/\x.a<C.entry.length/\x.a<p.size.length/\0<=nth p.size x.a.toNat/\nth p.size x.a.toNat<=24/\x.b<=nth p.size x.a.toNat)
  (op:1<=x.op/\x.op<=23) (word:x.op=15->cY c.last.n) (j6:∀v∈c.stack,v.s.size<=40) (deep:c.stack.length<=1000):(M.aQ c).cJ p C:=by
 have hi:(M.aQ c).bg C=x:=by unfold MV.bg;rw[MV.aV h1,hk,Int.toNat_natCast,hx]
 have ht:=MV.aV h1 c;refine⟨by rw[MV.bB];exact h1,by rw[MV.bB];exact h8,by rw[ht,hk];omega,by rw[ht,hk];omega,?_,?_,?_,?_,?_,?_,?_,?_,?_,?_⟩
 ·rw[hi,ht];exact one
 ·rw[hi,ht];exact two
 ·rw[hi,ht];exact slot
 ·rw[hi,ht];exact bool
 ·rw[hi,ht];exact len
 ·rw[hi,ht];exact call
 ·rw[hi];exact op
 ·rw[hi,ht];exact word
 ·rw[ht];exact j6
 ·rw[ht];exact deep
def ux(p:ab)(C:aE)(inp:List Int)(M:MV)(c:MC)(r:ak×Int)(k:Int):Prop:=
 (r.2=0->∃q,aS p C inp (M.aQ c) (M.aQ { c with at_:=k,stack:=c.stack++[r.1],bo:=q }))/\(r.2≠0->aS p C inp (M.aQ c) (M.fL c 3 r.2))
namespace MV
theorem ct(c:MC)(v:ak)(st:List ak)(a:Int)(q:Nat):MC.last { c with at_:=a,stack:=st++[v],bo:=q }=v:=by show nth (st++[v]) ((st++[v]).length-1)=v;rw[List.length_append,List.length_singleton,Nat.add_sub_cancel];exact nM _ _
theorem ff(c:MC)(v:ak)(st:List ak)(a:Int)(q:Nat):MC.cut { c with at_:=a,stack:=st++[v],bo:=q } 1={ c with at_:=a,stack:=st,bo:=q+1 }:=by show MC.mk c.fn a c.mark c.slots ((st++[v]).take ((st++[v]).length-1)) (q+1)=_;rw[List.length_append,List.length_singleton,Nat.add_sub_cancel,List.take_left]
theorem oD(c:MC)(u v:ak)(st:List ak)(a:Int)(q:Nat):MC.cut { c with at_:=a,stack:=st++[u]++[v],bo:=q } 2={ c with at_:=a,stack:=st,bo:=q+2 }:=by show MC.mk c.fn a c.mark c.slots ((st++[u]++[v]).take ((st++[u]++[v]).length-2)) (q+2)=_;rw[List.append_assoc,List.length_append,show([u]++[v]).length=2 from rfl,Nat.add_sub_cancel,List.take_left]
end MV
end Go.Gd
namespace Go.Proofs.YtfkgcobaheegbaaGreatDoor
open Go Go.Gd
def lH(p:ab)(j:Nat)(a:Int):Prop:=ow p.aa j<=a.toNat/\a.toNat<=(nth p.aa.ao j).body.toNat
variable{p:ab}
theorem lH.ay(h:dx p){j:Nat}(hj:j<p.aa.ao.length){a b:Int}(hi:lH p j a)(hb:b∈(ai p a).l):lH p j b/\0<=b/\b.toNat<a.toNat/\b.toNat<p.aa.nodes.length:=by
 have hbN:=oG h.ok.aa hj;have ha:a.toNat<p.aa.nodes.length:=by have:=hi.2;have:=hbN.1;have:=hbN.2;omega
 have h1:=(h.ok.aa.shape a.toNat ha).2.1 b hb;have hc:=(h.ao j hj).chain;have h2:=hi.2;have h3:=hi.1;refine⟨⟨?_,jB⟩,h1.1,h1.2,jB⟩;by_cases e:a.toNat<(nth p.aa.ao j).body.toNat
 ·exact hc.closed _ h3 e b hb
 ·have e:a.toNat=(nth p.aa.ao j).body.toNat:=jB;have hb':b∈(nth p.aa.nodes a.toNat).l:=hb;rw[e]at hb';exact(hc.mem b hb').2.1
variable{C:aE}{inp:List Int}{M:MV}{k:Nat}
theorem zm{c:MC}{x:au}{v:ak}(h1:1<=M.calls.length)(h8:M.calls.length<=8)(hs:M.status=0)(hk:c.at_=k)(hl:bJ C.ins k [x])(hx1:x.op≠1)(hok:(M.aQ c).cJ p C)
  (hi:(M.aQ { c with at_:=(k:Int)+1 }).ins p C inp x=M.aQ (MC.push { c with at_:=(k:Int)+1 } v)):ux p C inp M c (v,0) (k+1):=
 ⟨fun _=>⟨c.bo-1,aS.ins h1 h8 hs hk hl.head.1 hl.head.2.1 hx1 hok (by rw[hi];exact aS.refl _)⟩,fun h=>(h rfl).elim⟩
theorem xt{α:Type}{P:α->Prop}{l:List α}{x:α}(h:∀v∈l,P v)(hx:P x):∀v∈l++[x],P v:=fun v hv=>by
 rcases List.mem_append.1 hv with hv|hv
 ·exact h v hv
 ·rw[List.mem_singleton.1 hv];exact hx
variable{r:ak×Int}
theorem uT{c:MC}{s:ak×Int}{k1 k2:Int}(hd:ux p C inp M c r k1)(ht:r.2≠0->s=(v0,r.2))
  (hn:r.2=0->∀q,(s.2=0->∃q',aS p C inp (M.aQ { c with at_:=k1,stack:=c.stack++[r.1],bo:=q }) (M.aQ { c with at_:=k2,stack:=c.stack++[s.1],bo:=q' }))/\(s.2≠0->aS p C inp (M.aQ { c with at_:=k1,stack:=c.stack++[r.1],bo:=q }) (M.fL c 3 s.2))):ux p C inp M c s k2:=by
 by_cases e:r.2=0
 ·obtain⟨q,g⟩:=hd.1 e;refine⟨fun h=>?_,fun h=>g.trans ((hn e q).2 h)⟩;obtain⟨q',g'⟩:=(hn e q).1 h;exact⟨q',g.trans g'⟩
 ·rw[ht e];exact⟨fun h=>(e h).elim,fun _=>hd.2 e⟩
theorem xO{c:MC}{x:au}{u:ak}{q:Nat}(h1:1<=M.calls.length)(h8:M.calls.length<=8)(hs:M.status=0)(hl:bJ C.ins k [x])(hx1:x.op≠1)
  (hok:(M.aQ { c with at_:=(k:Int),stack:=c.stack++[u],bo:=q }).cJ p C)
  (hi:(M.aQ { c with at_:=(k:Int)+1,stack:=c.stack++[u],bo:=q }).ins p C inp x=(M.aQ { c with at_:=(k:Int)+1,stack:=c.stack,bo:=q+1 }).dX r) :
  (r.2=0->∃q',aS p C inp (M.aQ { c with at_:=(k:Int),stack:=c.stack++[u],bo:=q }) (M.aQ { c with at_:=(k:Int)+1,stack:=c.stack++[r.1],bo:=q' }))/\(r.2≠0->aS p C inp (M.aQ { c with at_:=(k:Int),stack:=c.stack++[u],bo:=q }) (M.fL c 3 r.2)):=by
 have g:∀m',aS p C inp ((M.aQ { c with at_:=(k:Int)+1,stack:=c.stack,bo:=q+1 }).dX r) m'->aS p C inp (M.aQ { c with at_:=(k:Int),stack:=c.stack++[u],bo:=q }) m':=fun m' hg=>
  aS.ins (c:={ c with at_:=(k:Int),stack:=c.stack++[u],bo:=q }) h1 h8 hs rfl hl.head.1 hl.head.2.1 hx1 hok (by show aS p C inp ((M.aQ { c with at_:=(k:Int)+1,stack:=c.stack++[u],bo:=q }).ins p C inp x) m';rw[hi];exact hg)
 refine⟨fun e=>⟨q+1-1,g _ ?_⟩,fun e=>g _ ?_⟩
 ·unfold MV.dX;rw[if_neg (fun h=>h e),MV.eH h1];exact aS.refl _
 ·unfold MV.dX;rw[if_pos e,MV.dB h1];exact aS.refl _
theorem QQ{c:MC}{x:au}{u w:ak}{q:Nat}(h1:1<=M.calls.length)(h8:M.calls.length<=8)(hs:M.status=0)(hl:bJ C.ins k [x])(hx1:x.op≠1)
  (hok:(M.aQ { c with at_:=(k:Int),stack:=c.stack++[u]++[w],bo:=q }).cJ p C)
  (hi:(M.aQ { c with at_:=(k:Int)+1,stack:=c.stack++[u]++[w],bo:=q }).ins p C inp x=(M.aQ { c with at_:=(k:Int)+1,stack:=c.stack,bo:=q+2 }).dX r) :
  (r.2=0->∃q',aS p C inp (M.aQ { c with at_:=(k:Int),stack:=c.stack++[u]++[w],bo:=q }) (M.aQ { c with at_:=(k:Int)+1,stack:=c.stack++[r.1],bo:=q' }))/\(r.2≠0->aS p C inp (M.aQ { c with at_:=(k:Int),stack:=c.stack++[u]++[w],bo:=q }) (M.fL c 3 r.2)):=by
 have g:∀m',aS p C inp ((M.aQ { c with at_:=(k:Int)+1,stack:=c.stack,bo:=q+2 }).dX r) m'->aS p C inp (M.aQ { c with at_:=(k:Int),stack:=c.stack++[u]++[w],bo:=q }) m':=fun m' hg=>
  aS.ins (c:={ c with at_:=(k:Int),stack:=c.stack++[u]++[w],bo:=q }) h1 h8 hs rfl hl.head.1 hl.head.2.1 hx1 hok (by show aS p C inp ((M.aQ { c with at_:=(k:Int)+1,stack:=c.stack++[u]++[w],bo:=q }).ins p C inp x) m';rw[hi];exact hg)
 refine⟨fun e=>⟨q+2-1,g _ ?_⟩,fun e=>g _ ?_⟩
 ·unfold MV.dX;rw[if_neg (fun h=>h e),MV.eH h1];exact aS.refl _
 ·unfold MV.dX;rw[if_pos e,MV.dB h1];exact aS.refl _
theorem lQ(p:ab)(n:Nat)(a k:Int):aR p (n+1) a k=(
  if(ai p a).kind=1 then[iI 2 (ai p a).n]
  else if(ai p a).kind=2 then[iI 3 (ai p a).n]
  else if(ai p a).kind=3 then[⟨4,0,0,(ai p a).name⟩]
  else if(ai p a).kind=4 then[⟨5,nth p.slots a.toNat,nth p.types a.toNat,sE⟩]
  else if(ai p a).kind=5 then aR p n (nth (ai p a).l 0) k++[iI 11 (nth p.slots a.toNat)]
  else if(ai p a).kind=6 then aR p n (nth (ai p a).l 0) k++[iI 10 0]
  else if(ai p a).kind=7 then aR p n (nth (ai p a).l 0) k++[iI 8 0]
  else if(ai p a).kind=8 then aR p n (nth (ai p a).l 0) k++[iI 9 0]
  else if jt (ai p a).name=7 then aR p n (nth (ai p a).l 0) k++aR p n (nth (ai p a).l 1) (k+(aR p n (nth (ai p a).l 0) k).length)++[⟨7,0,0,(ai p a).name⟩]
  else aR p n (nth (ai p a).l 0) k++[iI (jt (ai p a).name) (k+(aR p n (nth (ai p a).l 0) k).length+1+(aR p n (nth (ai p a).l 1) (k+(aR p n (nth (ai p a).l 0) k).length+1)).length)]++aR p n (nth (ai p a).l 1) (k+(aR p n (nth (ai p a).l 0) k).length+1)):=rfl
theorem rq(p:ab)(slots:List ak)(heap:List (List Int))(n:Nat)(a:Int):eN p slots heap (n+1) a=(
  let x:=eN p slots heap n (nth (ai p a).l 0)
  let y:=eN p slots heap n (nth (ai p a).l 1)
  if(ai p a).kind=1 then(vI (ai p a).n,0)
  else if(ai p a).kind=2 then(vB (decide ((ai p a).n=1)),0)
  else if(ai p a).kind=3 then(vT (ai p a).name,0)
  else if(ai p a).kind=4 then(dp slots (nth p.slots a.toNat) (nth p.types a.toNat),0)
  else if x.2≠0 then(v0,x.2)
  else if(ai p a).kind=5 then
   (if x.1.n<0\/((lz heap (dp slots (nth p.slots a.toNat) 4)).length:Int)<=x.1.n then(v0,2)else(vI (nth (lz heap (dp slots (nth p.slots a.toNat) 4)) x.1.n.toNat),0))
  else if(ai p a).kind=9 then
   (if((ai p a).name=(⟨#[124,124]⟩:ByteArray)/\x.1.n=1)\/((ai p a).name=(⟨#[38,38]⟩:ByteArray)/\x.1.n=0)then(x.1,0)
   else if y.2≠0 then(v0,y.2)else kN (ai p a).name x.1 y.1)
  else if(ai p a).kind=6 then(if x.1.ty=3 then(vI x.1.s.size,0)else(vI (lz heap x.1).length,0))
  else if(ai p a).kind=7 then(kQ (⟨#[45]⟩:ByteArray) x.1,0)
  else(kQ (⟨#[33]⟩:ByteArray) x.1,0)):=rfl
theorem zf{v:ak}(h:v.ty=2)(hm:j9 v=true):v=vB (decide (v.n=1))/\(v.n=0\/v.n=1):=by unfold j9 at hm;rw[jN,if_pos h]at hm;simp only[Bool.and_eq_true,Bool.or_eq_true,decide_eq_true_eq]at hm;obtain⟨h1,h2⟩:=hm;refine⟨?_,h2⟩;obtain⟨t,m,s⟩:=v;simp only at h h1 h2;subst h h1;rcases h2 with rfl|rfl<;>rfl
theorem Gw(slots:List ak)(k t:Int):(dp slots k t).ty=t:=by
 unfold dp;split
 ·rfl
 split
 ·rename_i h;exact h.2
 ·rfl
theorem B7(heap:List (List Int))(v:ak)(h:v.ty=4):lz heap v=MV.bq heap v.n:=by
 unfold lz MV.bq;by_cases e:v.n<1\/(heap.length:Int)<v.n
 ·rw[if_pos e,if_pos (.inr e)]
 ·rw[if_neg e,if_neg (by rintro(h'|h');exact h' h;exact e h')]
theorem AH{p:ab}{C:aE}{inp:List Int}{M:MV}(hs:dx p)(h1:1<=M.calls.length)(h8:M.calls.length<=8)(hst:M.status=0){j:Nat}(hj:j<p.aa.ao.length){slots:List ak}(hsl:(slots.length:Int)=nth p.size j) :
  ∀(n:Nat) (a:Int) (k:Nat) (c:MC),0<=a->a.toNat<p.aa.nodes.length->lH p j a->bQ (bt p.aa.nodes a)->a.toNat<n->c.slots=slots->c.at_=k->bJ C.ins k (aR p n a k)->(∀v∈c.stack,v.s.size<=40)->c.stack.length+a.toNat<=900->
   ux p C inp M c (eN p slots M.heap n a) (k+(aR p n a k).length)
 |0,a,k,c,h0,hl,hi,hk,hn,hc,hat,hC,hz,hd=>by omega
 |n+1,a,k,c,h0,hl,hi,hk,hn,hc,hat,hC,hz,hd=>by
  have told:=tJ hs.ok slots M.heap (n+1) a h0 jB hn hk;have sh:=(hs.ok.aa.shape a.toNat hl).1;have ty:=hs.ok.ty a.toNat (Nat.zero_le _) hl;have hk':bQ (ai p a).kind:=hk;unfold bQ at hk';have hslot:iA (ai p a).kind->0<=nth p.slots a.toNat/\nth p.slots a.toNat<c.slots.length:=fun h=>by have:=(hs.ao j hj).all a.toNat hi.1 (by have:=hi.2;omega) h;rw[hc];omega
  have ok0:∀(x:au),bJ C.ins k [x]->x.op=2\/x.op=3\/x.op=4\/(x.op=5/\0<=x.a/\x.a<c.slots.length)->(M.aQ c).cJ p C:=fun x hx ho=> cJ.pm h1 h8 hat hx.head.1 hx.head.2.1 (fun h=>jB) (fun h=>jB) (fun h=>jB) (fun h=>jB) (fun h=>jB) (fun h=>jB) jB (fun h=>jB) hz jB
  have okU:∀(k':Nat) (x:au) (u:ak) (q:Nat),bJ C.ins k' [x]->u.s.size<=40->x.op=8\/x.op=9\/(x.op=10/\(u.ty=3\/u.ty=4))\/(x.op=11/\0<=x.a/\x.a<c.slots.length)\/((x.op=18\/x.op=19)/\(u.n=0\/u.n=1))->(M.aQ { c with at_:=(k':Int),stack:=c.stack++[u],bo:=q }).cJ p C:=fun k' x u q hx hu ho=> cJ.pm h1 h8 rfl hx.head.1 hx.head.2.1 (fun _=>jE) (fun h=>jB) (fun h=>by show 0<=x.a/\x.a<c.slots.length;omega) (fun h=>by rw[MV.ct];omega) (fun h=>by rw[MV.ct];omega) (fun h=>jB) jB (fun h=>jB) (xt hz hu) jF
  -- what is below it
  have sub:∀b∈(ai p a).l,bQ (bt p.aa.nodes b)->∀(k':Nat) (c':MC),c'.slots=slots->c'.at_=k'->bJ C.ins k' (aR p n b k')->(∀v∈c'.stack,v.s.size<=40)->c'.stack.length<=c.stack.length+1->ux p C inp M c' (eN p slots M.heap n b) (k'+(aR p n b k').length)/\@Told (eN p slots M.heap n b) (nth p.types b.toNat):=fun b hb hbE k' c' g1 g2 g3 g4 g5=>by obtain⟨b1,b2,b3,b4⟩:=hi.ay hs hj hb;exact⟨AH hs h1 h8 hst hj hsl n b k' c' b2 b4 b1 hbE jB g1 g2 g3 g4 jB,tJ hs.ok slots M.heap n b b2 jB jB hbE⟩
  have hcase:(ai p a).kind=1\/(ai p a).kind=2\/(ai p a).kind=3\/(ai p a).kind=4\/(ai p a).kind=5\/(ai p a).kind=6\/(ai p a).kind=7\/(ai p a).kind=8\/(ai p a).kind=9:=jB;rcases hcase with e|e|e|e|e|e|e|e|e
  ·rw[lQ]at hC ⊢;rw[rq];simp only[e,Int.reduceEq,↓reduceIte]at hC ⊢;exact zm h1 h8 hst hat hC (fun h=>by cases h) (ok0 _ hC (.inl rfl)) (by rw[MV.rf,MV.eH h1])
  ·rw[lQ]at hC ⊢;rw[rq];simp only[e,Int.reduceEq,↓reduceIte]at hC ⊢;exact zm h1 h8 hst hat hC (fun h=>by cases h) (ok0 _ hC (.inr (.inl rfl))) (by rw[MV.pQ,MV.eH h1])
  ·rw[lQ]at hC ⊢;rw[rq];simp only[e,Int.reduceEq,↓reduceIte]at hC ⊢;exact zm h1 h8 hst hat hC (fun h=>by cases h) (ok0 _ hC (.inr (.inr (.inl rfl)))) (by rw[MV.pG,MV.eH h1])
  ·have hs4:=hslot (.inl e);rw[lQ]at hC ⊢;rw[rq];simp only[e,Int.reduceEq,↓reduceIte]at hC ⊢;exact zm h1 h8 hst hat hC (fun h=>by cases h) (ok0 _ hC (.inr (.inr (.inr ⟨rfl,hs4⟩)))) (by rw[MV.pC,MV.eH h1,MV.aV h1,hc])
  ·obtain⟨x,hlx,hxE⟩:=sh.one (.inl e);have hlx:(ai p a).l=[x]:=hlx;have hx0:nth (ai p a).l 0=x:=by rw[hlx];rfl
   have hs5:=hslot (.inr (.inl e));rw[rq]at told ⊢;rw[lQ]at hC ⊢;simp only[e,hx0,Int.reduceEq,↓reduceIte]at hC told ⊢;obtain⟨d,tx⟩:=sub x (by rw[hlx];simp) hxE k c hc hat hC.last.1 hz jB;have hsz:=tx.size;refine uT (k2:=k+(aR p n x k++[iI 11 (nth p.slots a.toNat)]).length) d (fun h=>by rw[if_pos h]) fun hx q=>?_
   rw[if_neg (fun h=>h hx)];have hl2:=hC.app.2;have hok:=okU _ _ (eN p slots M.heap n x).1 q hl2 hsz (.inr (.inr (.inr (.inl ⟨rfl,hs5⟩))));generalize eN p slots M.heap n x=X at*;rw[List.length_append,List.length_singleton,Int.natCast_add,show((k:Int)+(((aR p n x k).length:Int)+((1:Nat):Int)))=((k+(aR p n x k).length:Nat):Int)+1 by push_cast;omega,B7 _ _ (Gw _ _ _)];refine xO h1 h8 hst hl2 (fun h=>by cases h) hok ?_;rw[MV.n8,MV.aV h1,MV.ct,MV.cM h1,MV.ff,MV.ii,hc];by_cases hE:X.1.n<0\/((MV.bq M.heap (dp slots (nth p.slots a.toNat) 4).n).length:Int)<=X.1.n
   ·rw[if_pos hE,if_pos hE];rfl
   ·rw[if_neg hE,if_neg hE];rfl
  ·obtain⟨x,hlx,hxE⟩:=sh.one (by have e:(nth p.aa.nodes a.toNat).kind=6:=e;omega);have hlx:(ai p a).l=[x]:=hlx;have hx0:nth (ai p a).l 0=x:=by rw[hlx];rfl
   rw[rq]at told ⊢;rw[lQ]at hC ⊢;simp only[e,hx0,Int.reduceEq,↓reduceIte]at hC told ⊢;obtain⟨d,tx⟩:=sub x (by rw[hlx];simp) hxE k c hc hat hC.last.1 hz jB;have hsz:=tx.size;refine uT (k2:=k+(aR p n x k++[iI 10 0]).length) d (fun h=>by rw[if_pos h]) fun hx q=>?_
   rw[if_neg (fun h=>h hx)];have hl2:=hC.app.2;obtain⟨tx1,tx2⟩:=qq tx hx;have hty:(eN p slots M.heap n x).1.ty=3\/(eN p slots M.heap n x).1.ty=4:=by have:=(ty.len e).2;have hx0':nth (nth p.aa.nodes a.toNat).l 0=x:=hx0;rw[hx0']at this;omega
   have hok:=okU _ _ (eN p slots M.heap n x).1 q hl2 hsz (.inr (.inr (.inl ⟨rfl,hty⟩)));generalize eN p slots M.heap n x=X at*;rw[List.length_append,List.length_singleton,Int.natCast_add,show((k:Int)+(((aR p n x k).length:Int)+((1:Nat):Int)))=((k+(aR p n x k).length:Nat):Int)+1 by push_cast;omega];refine xO h1 h8 hst hl2 (fun h=>by cases h) hok ?_;rw[MV.qQ,MV.aV h1,MV.ct,MV.cM h1,MV.ff];rw[MV.ii];by_cases hE:X.1.ty=3
   ·rw[if_pos hE,jN];rfl
   ·have h4:X.1.ty=4:=jB;rw[if_neg hE,if_pos h4,B7 _ _ h4];rfl
  ·obtain⟨x,hlx,hxE⟩:=sh.one (by have e:(nth p.aa.nodes a.toNat).kind=7:=e;omega);have hlx:(ai p a).l=[x]:=hlx;have hx0:nth (ai p a).l 0=x:=by rw[hlx];rfl
   rw[rq]at told ⊢;rw[lQ]at hC ⊢;simp only[e,hx0,Int.reduceEq,↓reduceIte]at hC told ⊢;obtain⟨d,tx⟩:=sub x (by rw[hlx];simp) hxE k c hc hat hC.last.1 hz jB;have hsz:=tx.size;refine uT (k2:=k+(aR p n x k++[iI 8 0]).length) d (fun h=>by rw[if_pos h]) fun hx q=>?_
   rw[if_neg (fun h=>h hx)];have hl2:=hC.app.2;have hok:=okU _ _ (eN p slots M.heap n x).1 q hl2 hsz (.inl rfl);generalize eN p slots M.heap n x=X at*;rw[List.length_append,List.length_singleton,Int.natCast_add,show((k:Int)+(((aR p n x k).length:Int)+((1:Nat):Int)))=((k+(aR p n x k).length:Nat):Int)+1 by push_cast;omega];refine xO h1 h8 hst hl2 (fun h=>by cases h) hok ?_;rw[MV.qJ,MV.aV h1,MV.ct,MV.cM h1,MV.ff];rfl
  ·obtain⟨x,hlx,hxE⟩:=sh.one (by have e:(nth p.aa.nodes a.toNat).kind=8:=e;omega);have hlx:(ai p a).l=[x]:=hlx;have hx0:nth (ai p a).l 0=x:=by rw[hlx];rfl
   rw[rq]at told ⊢;rw[lQ]at hC ⊢;simp only[e,hx0,Int.reduceEq,↓reduceIte]at hC told ⊢;obtain⟨d,tx⟩:=sub x (by rw[hlx];simp) hxE k c hc hat hC.last.1 hz jB;have hsz:=tx.size;refine uT (k2:=k+(aR p n x k++[iI 9 0]).length) d (fun h=>by rw[if_pos h]) fun hx q=>?_
   rw[if_neg (fun h=>h hx)];have hl2:=hC.app.2;have hok:=okU _ _ (eN p slots M.heap n x).1 q hl2 hsz (.inr (.inl rfl));generalize eN p slots M.heap n x=X at*;rw[List.length_append,List.length_singleton,Int.natCast_add,show((k:Int)+(((aR p n x k).length:Int)+((1:Nat):Int)))=((k+(aR p n x k).length:Nat):Int)+1 by push_cast;omega];refine xO h1 h8 hst hl2 (fun h=>by cases h) hok ?_;rw[MV.qL,MV.aV h1,MV.ct,MV.cM h1,MV.ff];rfl
  ·obtain⟨x,y,hlx,hxE,hyE⟩:=sh.two (.inl e);have hlx:(ai p a).l=[x,y]:=hlx;have hx0:nth (ai p a).l 0=x:=by rw[hlx];rfl
   have hy0:nth (ai p a).l 1=y:=by rw[hlx];rfl
   have hsg:(ai p a).name∈tI:=sh.sign e;have tb:=ty.zx e;have tb:nth p.types a.toNat=gY (ai p a).name (nth p.types (nth (ai p a).l 0).toNat) (nth p.types (nth (ai p a).l 1).toNat)/\nth p.types a.toNat≠0:=tb;rw[hx0,hy0]at tb;rw[rq]at told ⊢;rw[lQ]at hC ⊢;simp only[e,hx0,hy0,Int.reduceEq,↓reduceIte]at hC told ⊢;by_cases hop:jt (ai p a).name=7
   ·rw[if_pos hop]at hC ⊢;have hn1:(ai p a).name≠(⟨#[38,38]⟩:ByteArray):=fun h=>by unfold jt at hop;rw[if_pos h]at hop;cases hop
    have hn2:(ai p a).name≠(⟨#[124,124]⟩:ByteArray):=fun h=>by unfold jt at hop;rw[if_neg hn1,if_pos h]at hop;cases hop
    obtain⟨d,tx⟩:=sub x (by rw[hlx];simp) hxE k c hc hat hC.last.1.app.1 hz jB;have hsz:=tx.size;refine uT d (fun h=>by rw[if_pos h]) fun hx q=>?_
    rw[if_neg (fun h=>h hx),if_neg (fun h=>h.elim (fun h=>hn2 h.1) (fun h=>hn1 h.1))];have hCy:=hC.last.1.app.2;obtain⟨dy,tty⟩:=sub y (by rw[hlx];simp) hyE (k+(aR p n x k).length) { c with at_:=((k+(aR p n x k).length:Nat):Int),stack:=c.stack++[(eN p slots M.heap n x).1],bo:=q } hc rfl (by rw[Int.natCast_add];exact hCy) (xt hz hsz) jE;have hsy:=tty.size;have hl2:=hC.app.2;have hbin:Told (kN (ai p a).name (eN p slots M.heap n x).1 (eN p slots M.heap n y).1) (nth p.types a.toNat)\/(eN p slots M.heap n y).2≠0:=by
     by_cases hy:(eN p slots M.heap n y).2=0
     ·rw[if_neg (fun h=>h hx),if_neg (fun h=>h.elim (fun h=>hn2 h.1) (fun h=>hn1 h.1)),if_neg (fun h=>h hy)]at told;exact .inl told
     ·exact .inr hy
    rw[Int.natCast_add]at dy;rw[List.length_append,List.length_append,List.length_singleton,show((k:Int)+(((aR p n x k).length+(aR p n y (k+(aR p n x k).length)).length+1:Nat):Int))=((k+(aR p n x k++aR p n y (k+(aR p n x k).length)).length:Nat):Int)+1 by rw[List.length_append];push_cast;omega];generalize hX:eN p slots M.heap n x=X at*;generalize hY:eN p slots M.heap n y=Y at*;rw[show((k:Int)+(aR p n x k).length+(aR p n y (k+(aR p n x k).length)).length)=((k+(aR p n x k++aR p n y (k+(aR p n x k).length)).length:Nat):Int) by rw[List.length_append];push_cast;omega]at dy;by_cases hy:Y.2=0
    ·rw[if_neg (fun h=>h hy)];obtain⟨q2,g⟩:=dy.1 hy;have ht:=QQ (p:=p) (C:=C) (inp:=inp) (M:=M) (c:=c) (u:=X.1) (w:=Y.1) (r:=kN (ai p a).name X.1 Y.1) (q:=q2) h1 h8 hst hl2 (fun h=>by cases h)
      (cJ.pm h1 h8 rfl hl2.head.1 hl2.head.2.1 (fun _=>jE) (fun _=>jE) (fun h=>by rcases h with h|h|h|h<;>cases h) (fun h=>by rcases h with h|h|h<;>cases h) (fun h=>by cases h) (fun h=>by cases h) ⟨by show(1:Int)<=7;decide,by show(7:Int)<=23;decide⟩ (fun h=>by cases h) (xt (xt hz hsz) hsy) jF)
      (by rw[MV.qO,MV.aV h1,MV.ct,MV.ff c Y.1 (c.stack++[X.1]),MV.ct,MV.cM h1,MV.oD])
     exact⟨fun h=>by obtain⟨q',g'⟩:=ht.1 h;exact⟨q',g.trans g'⟩,fun h=>g.trans (ht.2 h)⟩
    ·rw[if_pos hy];exact⟨fun h=>(hy h).elim,fun h=>dy.2 h⟩
   ·rw[if_neg hop]at hC ⊢;have hnm:((ai p a).name=(⟨#[38,38]⟩:ByteArray)/\jt (ai p a).name=18)\/((ai p a).name=(⟨#[124,124]⟩:ByteArray)/\(ai p a).name≠(⟨#[38,38]⟩:ByteArray)/\jt (ai p a).name=19):=by
     unfold jt at hop ⊢;by_cases hn1:(ai p a).name=(⟨#[38,38]⟩:ByteArray)
     ·exact .inl ⟨hn1,by rw[if_pos hn1]⟩
     rw[if_neg hn1]at hop ⊢;by_cases hn2:(ai p a).name=(⟨#[124,124]⟩:ByteArray)
     ·exact .inr ⟨hn2,hn1,by rw[if_pos hn2]⟩
     ·rw[if_neg hn2]at hop;exact(hop rfl).elim
    obtain⟨d,tx⟩:=sub x (by rw[hlx];simp) hxE k c hc hat hC.app.1.last.1 hz jB;have hsz:=tx.size;have htw:nth p.types x.toNat=2/\nth p.types y.toNat=2:=by
     have t1:=tb.1;have t2:=tb.2;rw[t1]at t2;unfold gY at t2;by_cases h:nth p.types x.toNat=nth p.types y.toNat
     ·rw[if_neg (fun h'=>h' h),if_pos (by rcases hnm with h|h;exact .inr h.1;exact .inl h.1)]at t2;by_cases h2:nth p.types x.toNat=2
      ·exact⟨h2,jB⟩
      ·rw[if_neg h2]at t2;exact(t2 rfl).elim
     ·rw[if_pos h]at t2;exact(t2 rfl).elim
    rw[htw.1]at tx;refine uT d (fun h=>by rw[if_pos h]) fun hx q=>?_
    rw[if_neg (fun h=>h hx)];obtain⟨x1,x2⟩:=qq tx hx;obtain⟨xb,xn⟩:=zf x1 x2;have hlI:=hC.app.1.app.2;have hCy:=hC.app.2;rw[List.length_append,List.length_singleton,<-Nat.add_assoc]at hCy;obtain⟨dy,tty⟩:=sub y (by rw[hlx];simp) hyE (k+(aR p n x k).length+1) { c with at_:=((k+(aR p n x k).length:Nat):Int)+1,stack:=c.stack,bo:=q+1 } hc (by show((k+(aR p n x k).length:Nat):Int)+1=_;omega) (by rw[Int.natCast_add,Int.natCast_add];exact hCy) hz jE;rw[htw.2]at tty;have hT:((k:Int)+((aR p n x k++[iI (jt (ai p a).name) ((k:Int)+(aR p n x k).length+1+(aR p n y ((k:Int)+(aR p n x k).length+1)).length)]++aR p n y ((k:Int)+(aR p n x k).length+1)).length:Int))=(k:Int)+(aR p n x k).length+1+(aR p n y ((k:Int)+(aR p n x k).length+1)).length:=by rw[List.length_append,List.length_append,List.length_singleton];push_cast;omega
    rw[hT];have hok:=fun h=>okU _ _ (eN p slots M.heap n x).1 q hlI hsz (.inr (.inr (.inr (.inr ⟨h,xn⟩))))
    have gI:∀m',aS p C inp ((M.aQ { c with at_:=((k+(aR p n x k).length:Nat):Int)+1,stack:=c.stack++[(eN p slots M.heap n x).1],bo:=q }).ins p C inp (iI (jt (ai p a).name) ((k:Int)+(aR p n x k).length+1+(aR p n y ((k:Int)+(aR p n x k).length+1)).length))) m'->aS p C inp (M.aQ { c with at_:=((k+(aR p n x k).length:Nat):Int),stack:=c.stack++[(eN p slots M.heap n x).1],bo:=q }) m':=fun m' hg=> aS.ins (c:={ c with at_:=((k+(aR p n x k).length:Nat):Int),stack:=c.stack++[(eN p slots M.heap n x).1],bo:=q }) h1 h8 hst rfl hlI.head.1 hlI.head.2.1 (fun h=>by have h:jt (ai p a).name=1:=h;omega) (hok (by show jt _=18\/jt _=19;omega)) hg
    rw[Int.natCast_add]at gI;rw[show(((k+(aR p n x k).length+1:Nat):Int))=(k:Int)+(aR p n x k).length+1 by push_cast;omega]at dy;rw[Int.natCast_add]at dy;generalize hT2:((k:Int)+(aR p n x k).length+1+(aR p n y ((k:Int)+(aR p n x k).length+1)).length)=T at*;generalize hX:eN p slots M.heap n x=X at*;generalize hY:eN p slots M.heap n y=Y at*;have hy2:∀(hne:(ai p a).name=(⟨#[124,124]⟩:ByteArray)/\X.1.n=0\/(ai p a).name=(⟨#[38,38]⟩:ByteArray)/\X.1.n=1),Y.2=0->kN (ai p a).name X.1 Y.1=(Y.1,0):=fun hne hy=>by
     obtain⟨y1,y2⟩:=qq tty hy;obtain⟨yb,yn⟩:=zf y1 y2;unfold kN;rw[jN];rcases hne with⟨h,hn⟩|⟨h,hn⟩
     ·rw[h,if_neg jC,if_neg jC,jN,if_pos x1,if_pos rfl,decide_eq_false (by omega:¬X.1.n=1),Bool.false_or,<-yb]
     ·rw[h,if_neg jC,if_neg jC,jN,if_pos x1,if_neg jC,if_pos rfl,decide_eq_true hn,Bool.true_and,<-yb]
    -- one goes on at the other side
    have go:∀(hne:(ai p a).name=(⟨#[124,124]⟩:ByteArray)/\X.1.n=0\/(ai p a).name=(⟨#[38,38]⟩:ByteArray)/\X.1.n=1),(M.aQ { c with at_:=(k:Int)+(aR p n x k).length+1,stack:=c.stack++[X.1],bo:=q }).ins p C inp (iI (jt (ai p a).name) T)=M.aQ { c with at_:=(k:Int)+(aR p n x k).length+1,stack:=c.stack,bo:=q+1 }->
      ((if Y.2≠0 then(v0,Y.2)else kN (ai p a).name X.1 Y.1).2=0->∃q',aS p C inp (M.aQ { c with at_:=(k:Int)+(aR p n x k).length,stack:=c.stack++[X.1],bo:=q }) (M.aQ { c with at_:=T,stack:=c.stack++[(if Y.2≠0 then(v0,Y.2)else kN (ai p a).name X.1 Y.1).1],bo:=q' }))/\((if Y.2≠0 then(v0,Y.2)else kN (ai p a).name X.1 Y.1).2≠0->aS p C inp (M.aQ { c with at_:=(k:Int)+(aR p n x k).length,stack:=c.stack++[X.1],bo:=q }) (M.fL c 3 (if Y.2≠0 then(v0,Y.2)else kN (ai p a).name X.1 Y.1).2)):=fun hne hi=>by
     by_cases hy:Y.2=0
     ·rw[if_neg (fun h=>h hy),hy2 hne hy];obtain⟨q2,g⟩:=dy.1 hy;exact⟨fun _=>⟨q2,gI _ (by rw[hi];exact g)⟩,fun h=>(h rfl).elim⟩
     ·rw[if_pos hy];exact⟨fun h=>(hy h).elim,fun _=>gI _ (by rw[hi];exact dy.2 hy)⟩
    rcases hnm with⟨h,h18⟩|⟨h,hne,h19⟩
    ·rcases xn with hn|hn
     ·rw[if_pos (.inr ⟨h,hn⟩)];refine⟨fun _=>⟨q,gI _ ?_⟩,fun h=>(h rfl).elim⟩;rw[h18,MV.nr,MV.aV h1,MV.ct,jN,MV.cV];exact aS.refl _
     ·rw[if_neg (fun e=>e.elim (fun e=>by rw[h]at e;exact absurd e.1 jC) (fun e=>jB))];exact go (.inr ⟨h,hn⟩) (by rw[h18,MV.nr,MV.aV h1,MV.ct,if_pos hn,MV.cM h1,MV.ff])
    ·rcases xn with hn|hn
     ·rw[if_neg (fun e=>e.elim (fun e=>jB) (fun e=>hne e.1))];exact go (.inl ⟨h,hn⟩) (by rw[h19,MV.pL,MV.aV h1,MV.ct,jN,MV.cM h1,MV.ff])
     ·rw[if_pos (.inl ⟨h,hn⟩)];refine⟨fun _=>⟨q,gI _ ?_⟩,fun h=>(h rfl).elim⟩;rw[h19,MV.pL,MV.aV h1,MV.ct,if_pos hn,MV.cV];exact aS.refl _
end Go.Proofs.YtfkgcobaheegbaaGreatDoor

/- Lemmas. No conditions. -/
import Derived.Tactics
import Derived.Lib.ItoaNum
import Derived.Below
import Derived.Laws.AppendOwn
import Derived.Laws.Cells
import Derived.Deep.LoopGhost
import Derived.Orders
import Derived.Scope
import Derived.Laws.Slices
import Derived.WalkKit
import Derived.Laws.StructEq
set_option linter.all false
namespace Go.Gd
open Go
variable{p:Prop}
def jB(h:p:=by first|(omega)|fail):p:=h
def jC(h:p:=by first|(decide)|fail):p:=h
def jD(h:p:=by first|(simp only[go_sem])|fail):p:=h
def jE(h:p:=by first|(simp)|fail):p:=h
def jF(h:p:=by first|(simp;omega)|fail):p:=h
def jG(h:p:=by first|(kernel_rfl)|fail):p:=h
def jH(h:p:=by first|(intro;omega)|fail):p:=h
def jJ(h:p:=by first|((try simp only);omega)|fail):p:=h
def jz(h:p:=by first|contradiction|omega|fail):p:=h
def jl{n:Nat}:n<=n:=Nat.le_refl n
def wI(h:p:=by first|(simp only[go_sem,↓reduceIte,Int.reduceEq,Int.reduceLE,Int.reduceLT,Int.reduceNe,Int.reduceToNat,Nat.reduceMul,Nat.reduceAdd,Nat.reduceLeDiff,Nat.reduceSub,Nat.reduceEqDiff,Nat.reduceBEq,List.nodup_cons,List.nodup_nil,List.mem_cons,List.not_mem_nil,List.mem_nil_iff];done)|fail):p:=h
def u9(h:p:=by first|(simp only[go_sem,↓reduceIte,Int.reduceEq,Int.reduceLE,Int.reduceLT,Int.reduceNe,Int.reduceToNat,Nat.reduceMul,Nat.reduceAdd,Nat.reduceLeDiff,Nat.reduceSub,Nat.reduceEqDiff,Nat.reduceBEq,List.nodup_cons,List.nodup_nil,List.mem_cons,List.not_mem_nil,List.mem_nil_iff];rfl)|fail):p:=h
def jI:True:=⟨⟩
def jN {α:Sort _} {c:Prop} [Decidable c] {a b:α} (h:¬c:=by omega):(if c then a else b)=b:=if_neg h
def jP {α:Sort _} {c:Prop} [Decidable c] {a b:α} (h:c:=by omega):(if c then a else b)=a:=if_pos h
def jA {a b:Prop}(h:a)(k:b):a∧b:=⟨h,k⟩
def By:List (Nat×List Value):=[(0,Lib.pow10Tab.map (Value.int .u64))]
def jh:List Nat:=[229,237,241,354]
inductive AV where
 |raw (v:Value)
 |any
 |agg (cs:List AV)
 |aY (vs:List AV)
 |sl (x:Bool) (sz:Nat) (css:List (List AV)) (d:List AV)
 |ip (cs:List AV)
 |gd (p:Bool) (v:AV)
 |eT (f:FuncId) (cs:List AV)
 |pt (i m k j:Nat)
 |rs (i m sz n:Nat)
 |rc (i m sz n:Nat)
 |rv (i m sz o n:Nat)
 |mr (i:Nat)
 |bd (f:FuncId) (fs:List AV)
 |iS (t:TypeId) (v:AV)
 |mv (m:String) (v:AV)
instance:Inhabited AV:=⟨.any⟩
mutual
def AV.all(q:Nat->Bool):AV->Bool
 |.agg cs=>aR q cs
 |.aY cs=>aR q cs
 |.eT _ cs=>aR q cs
 |.bd _ fs=>aR q fs
 |.iS _ v=>v.all q
 |.mv _ v=>v.all q
 |.gd _ v=>v.all q
 |.pt i _ _ _=>q i
 |.rs i _ _ _=>q i
 |.rc i _ _ _=>q i
 |.rv i _ _ _ _=>q i
 |.mr i=>q i
 |.raw _=>true
 |.any=>true
 |.sl _ _ _ _=>true
 |.ip _=>true
def aR(q:Nat->Bool):List AV->Bool
 |[]=>true
 |a::l=>a.all q && aR q l
end
theorem mH{q:Nat->Bool}:∀{l:List AV},aR q l=true->∀{i:Nat} {a:AV},l[i]?=some a->a.all q=true
 |[],_,i,a,h=>by simp at h
 |x::l,hl,i,a,h=>by
  simp only[aR,Bool.and_eq_true]at hl;cases i with
  |zero=>simp at h;subst h;exact hl.1
  |succ i=>exact mH hl.2 (by simpa using h)
mutual
theorem rA{q p:Nat->Bool}(hq:∀i,q i=true->p i=true):∀a:AV,a.all q=true->a.all p=true
 |.agg cs,h=>by simp only[AV.all]at h ⊢;exact fR hq cs h
 |.aY cs,h=>by simp only[AV.all]at h ⊢;exact fR hq cs h
 |.eT _ cs,h=>by simp only[AV.all]at h ⊢;exact fR hq cs h
 |.bd _ fs,h=>by simp only[AV.all]at h ⊢;exact fR hq fs h
 |.iS _ v,h=>by simp only[AV.all]at h ⊢;exact rA hq v h
 |.mv _ v,h=>by simp only[AV.all]at h ⊢;exact rA hq v h
 |.gd _ v,h=>by simp only[AV.all]at h ⊢;exact rA hq v h
 |.pt i _ _ _,h=>hq i (by simpa only[AV.all]using h)
 |.rs i _ _ _,h=>hq i (by simpa only[AV.all]using h)
 |.rc i _ _ _,h=>hq i (by simpa only[AV.all]using h)
 |.rv i _ _ _ _,h=>hq i (by simpa only[AV.all]using h)
 |.mr i,h=>hq i (by simpa only[AV.all]using h)
 |.raw _,_=>by simp only[AV.all]
 |.any,_=>by simp only[AV.all]
 |.sl _ _ _ _,_=>by simp only[AV.all]
 |.ip _,_=>by simp only[AV.all]
theorem fR{q p:Nat->Bool}(hq:∀i,q i=true->p i=true):∀l:List AV,aR q l=true->aR p l=true
 |[],_=>rfl
 |a::l,h=>by simp only[aR,Bool.and_eq_true]at h ⊢;exact⟨rA hq a h.1,fR hq l h.2⟩
end
mutual
theorem nH:∀a:AV,a.all (fun _=>true)=true
 |.agg cs=>by simp only[AV.all];exact vU cs
 |.aY cs=>by simp only[AV.all];exact vU cs
 |.eT _ cs=>by simp only[AV.all];exact vU cs
 |.bd _ fs=>by simp only[AV.all];exact vU fs
 |.iS _ v=>by simp only[AV.all];exact nH v
 |.mv _ v=>by simp only[AV.all];exact nH v
 |.gd _ v=>by simp only[AV.all];exact nH v
 |.pt i _ _ _=>by simp only[AV.all]
 |.rs i _ _ _=>by simp only[AV.all]
 |.rc i _ _ _=>by simp only[AV.all]
 |.rv i _ _ _ _=>by simp only[AV.all]
 |.mr i=>by simp only[AV.all]
 |.raw _=>by simp only[AV.all]
 |.any=>by simp only[AV.all]
 |.sl _ _ _ _=>by simp only[AV.all]
 |.ip _=>by simp only[AV.all]
theorem vU:∀l:List AV,aR (fun _=>true) l=true
 |[]=>rfl
 |a::l=>by simp only[aR,Bool.and_eq_true];exact⟨nH a,vU l⟩
end
inductive Row where
 |var (t:TypeId) (cs:List AV)
 |aD (e:TypeId) (sz:Nat) (css:List (List AV))
 |mp (ks:List Value) (vs:List AV)
def Row.fD:Row->Nat
 |.var _ _=>0
 |.aD _ _ css=>css.length
 |.mp _ _=>0
def Row.elem:Row->TypeId
 |.var t _=>t
 |.aD e _ _=>e
 |.mp _ _=>0
def Row.bB:Row->Nat
 |.var _ _=>0
 |.aD _ sz _=>sz
 |.mp _ _=>0
def Row.cells:Row->List AV
 |.var _ cs=>cs
 |.aD _ _ css=>css.flatten
 |.mp _ vs=>vs
def Row.ok:Row->Prop
 |.var _ _=>True
 |.aD _ sz css=>0<sz/\∀cs∈css,cs.length=sz
 |.mp ks vs=>ks.length=vs.length
def iZ:Nat->List Value->List Value->List MapEntry
 |n,k::ks,v::vs=>⟨k,v,n⟩::iZ (n+1) ks vs
 |_,_,_=>[]
def Row.obj(r:Row)(cur:Array Value):Obj:=match r with
 |.mp ks _=>.map (iZ 0 ks cur.toList).toArray ks.length
 |.var t _=>.cells cur t (0,0)
 |.aD e _ _=>.cells cur e (0,0)
def Row.fit(r:Row)(n t:Nat):Prop:=match r with
 |.mp _ vs=>n=vs.length
 |.var ty cs=>n=t/\(Row.var ty cs).cells.length<=t
 |.aD e sz css=>n=t/\(Row.aD e sz css).cells.length<=t
def Row.Au:Row->Bool
 |.mp _ _=>false
 |_=>true
variable{r:Row}
def Row.tI(h:r.Au=true)(cur:Array Value):r.obj cur=.cells cur r.elem (0,0):=by
 cases r with
 |var t cs=>rfl
 |aD e sz css=>rfl
 |mp ks vs=>cases h
def Row.sV(h:r.Au=true)(n t:Nat):r.fit n t=(n=t/\r.cells.length<=t):=by
 cases r with
 |var t cs=>rfl
 |aD e sz css=>rfl
 |mp ks vs=>cases h
structure Hp where
 B:List Nat
 l:List (Nat×Row)
def az:List (Nat×Row)->Nat->Option Row
 |[],_=>none
 |(j,r)::l,i=>if i=j then some r else az l i
def aZ:List (Nat×Row)->Nat->Row->List (Nat×Row)
 |[],i,r=>[(i,r)]
 |(j,s)::l,i,r=>if i=j then(i,r)::l else(j,s)::aZ l i r
def AD:List (Nat×Row)->Nat->List (Nat×Row)
 |[],_=>[]
 |(j,s)::l,i=>if i=j then AD l i else(j,s)::AD l i
def Hp.get(H:Hp)(i:Nat):Option Row:=az H.l i
def Hp.put(H:Hp)(i:Nat)(r:Row):Hp:=⟨H.B,aZ H.l i r⟩
theorem bO:∀(l:List (Nat×Row)) (i j:Nat) (r:Row),az (aZ l i r) j=if j=i then some r else az l j
 |[],i,j,r=>by simp[aZ,az]
 |(k,s)::l,i,j,r=>by
  unfold aZ;split
  ·rename_i h;subst h;simp only[az];split<;>rfl
  ·rename_i h;simp only[az];split
   ·rename_i h2;subst h2;rw[if_neg (fun e=>h e.symm)]
   ·exact bO l i j r
def Hp.bj(H:Hp)(i j:Nat)(r:Row):(H.put i r).get j=if j=i then some r else H.get j:=bO _ _ _ _
inductive Rz where
 |nil
 |at(b t s:Nat)
structure NW extends World where
 O:Nat->Prop
 nm:Nat->Nat->Option Rz
instance:Coe NW World:=⟨NW.toWorld⟩
@[reducible] def NW.bare(w:NW):NW:={ w with nm:=fun _ _=>none }
def O9(w:World)(b:Nat):Prop:=∃cur el,w.heap[b]?=some (.cells cur el (0,0))
inductive aw:NW->AV->Value->Prop
 |raw {w:NW} (v:Value):aw w (.raw v) v
 |any {w:NW} (v:Value):aw w .any v
 |agg {w:NW} (cs:List AV) (vs:Array Value) (hl:cs.length=vs.size) (h:∀(i:Nat) a v,cs[i]?=some a->vs[i]?=some v->aw w a v):aw w (.agg cs) (.agg vs)
 |aY {w:NW} (cs:List AV) (vs:Array Value) (hl:cs.length=vs.size) (h:∀(i:Nat) a v,cs[i]?=some a->vs[i]?=some v->aw w a v):aw w (.aY cs) (.tuple vs)
 |hJ {w:NW} {d:List AV} (x:Bool) (sz:Nat) (A:Option Addr) (c:Nat) (hx:x=true->c=0):aw w (.sl x sz [] d) (.slice A 0 c)
 |sl {w:NW} {d:List AV} (x:Bool) (sz:Nat) (css:List (List AV)) (a:Addr) (c:Nat) (vs:Nat->Value) (hn:0<css.length) (hc:css.length<=c) (hx:x=true->c=css.length/\O9 w a.block) (Vb:∀cs∈css,cs.length=sz)
   (hb:a.block<w.heap.size) (hH:¬w.O a.block) (D':∀i j,i<css.length->j<sz->w.cell? (a.add (i*sz+j))=some (vs (i*sz+j)))
   (h:∀i (j:Nat) u,i<css.length->(css.getD i [])[j]?=some u->aw w.bare u (vs (i*sz+j))):aw w (.sl x sz css d) (.slice (some a) css.length c)
 |ip {w:NW} (cs:List AV) (a:Addr) (vs:Nat->Value) (hb:a.block<w.heap.size) (hH:¬w.O a.block) (D':∀j,j<cs.length->w.cell? (a.add j)=some (vs j))
   (h:∀(j:Nat) u,cs[j]?=some u->aw w.bare u (vs j)):aw w (.ip cs) (.pointer (some a))
 |gd {w:NW} (p:Bool) (a:AV) (v:Value) (h:p=true->aw w a v) (hu:p=false->v=undef):aw w (.gd p a) v
 |eT {w:NW} (f:FuncId) (cs:List AV) (vs:Array Value) (hl:cs.length=vs.size) (h:∀(i:Nat) a v,cs[i]?=some a->vs[i]?=some v->aw w a v):aw w (.eT f cs) (.func (.func f) #[] vs)
 |pt {w:NW} (i m k j b t s:Nat) (h:w.nm i m=some (.at b t s)):aw w (.pt i m k j) (.pointer (some ⟨b,k*s+j,none⟩))
 |iH {w:NW} (i m sz:Nat) (A:Option Addr) (h:w.nm i m=some .nil):aw w (.rs i m sz 0) (.slice A 0 0)
 |rs {w:NW} (i m sz n b t c:Nat) (h:w.nm i m=some (.at b t sz)) (hc:c*sz=t) (hn:n<=c) (hs:0<sz):aw w (.rs i m sz n) (.slice (some ⟨b,0,none⟩) n c)
 |rc {w:NW} (i m sz n b t:Nat) (h:w.nm i m=some (.at b t sz)) (hc:m*sz=t) (hn:n<=m) (hs:0<sz):aw w (.rc i m sz n) (.slice (some ⟨b,0,none⟩) n m)
 |kj {w:NW} (i m sz o c:Nat) (A:Option Addr):aw w (.rv i m sz o 0) (.slice A 0 c)
 |rv {w:NW} (i m sz o n b t c:Nat) (h:w.nm i m=some (.at b t sz)) (hn:n<=c):aw w (.rv i m sz o n) (.slice (some ⟨b,o*sz,none⟩) n c)
 |mr {w:NW} (i b t s:Nat) (h:w.nm i 0=some (.at b t s)):aw w (.mr i) (.map (some b))
 |bd {w:NW} (f:FuncId) (fs:List AV) (vs:Array Value) (hl:fs.length=vs.size) (h:∀(i:Nat) a v,fs[i]?=some a->vs[i]?=some v->aw w a v):aw w (.bd f fs) (.func (.func f) vs #[])
 |iS {w:NW} (t:TypeId) (a:AV) (v:Value) (h:aw w a v):aw w (.iS t a) (.iface t v)
 |mv {w:NW} (m:String) (a:AV) (v:Value) (h:aw w a v):aw w (.mv m a) (.func (.method m) #[v] #[])
def bZ(w:NW)(cs:List AV)(vs:List Value):Prop:=cs.length=vs.length/\∀(i:Nat) a v,cs[i]?=some a->vs[i]?=some v->aw w a v
def br(w:NW)(F:List AV)(tm:Array Value):Prop:=F.length=tm.size/\∀(i:Nat) a v,F[i]?=some a->tm[i]?=some v->aw w a v
def gD(w:NW)(r:Row):Rz->Prop
 |.nil=>∃e sz,r=.aD e sz []
 |.at b t s=>s=r.bB/\∃cur:Array Value,w.heap[b]?=some (r.obj cur)/\r.fit cur.size t/\∀(i:Nat) a v,r.cells[i]?=some a->cur[i]?=some v->aw w a v
structure Keep(q:Nat->Bool)(w w':NW):Prop where
 size:w.heap.size<=w'.heap.size
 free:∀b,b<w.heap.size->¬w.O b->w'.heap[b]?=w.heap[b]?/\¬w'.O b
 names:∀i m z,q i=true->w.nm i m=some z->w'.nm i m=some z
def l7(w:NW):Prop:=∀g vs,(g,vs)∈By->(∃cur el fr,w.heap[g]?=some (.cells cur el fr)/\cur.toList=vs)/\¬w.O g
variable{w:NW}
def l7.aU{q:Nat->Bool}{w':NW}(h:l7 w)(k:Keep q w w'):l7 w':=fun g vs hm=>by obtain⟨⟨cur,el,fr,h1,h2⟩,h3⟩:=h g vs hm;have:=k.free g (Array.getElem?_eq_some_iff.1 h1).1 h3;exact⟨⟨cur,el,fr,this.1.trans h1,h2⟩,this.2⟩
structure aF(w:NW)(H:Hp):Prop where
 bY:l7 w
 rows:∀i r,H.get i=some r->r.ok/\∃z,w.nm i r.fD=some z/\gD w r z
 dt:∀i m z,w.nm i m=some z->∃r,H.get i=some r/\m<=r.fD
 inj:∀i m j n b t s t' s',w.nm i m=some (.at b t s)->w.nm j n=some (.at b t' s')->i=j
 own:∀i m b t s,w.nm i m=some (.at b t s)->w.O b
 fin:∀b,w.O b->b<w.heap.size
structure ExtQ(q:Nat->Bool)(w w':NW):Prop extends Keep q w w' where
 os:w'.os=w.os
 tape:w'.tape=w.tape
 output:w'.output=w.output
 rest:∀b,b<w.heap.size->w.O b->(∀i m t s,w.nm i m≠some (.at b t s))->w'.heap[b]?=w.heap[b]?/\w'.O b/\∀i m t s,w'.nm i m≠some (.at b t s)
abbrev rW:Nat->Bool:=fun _=>true
structure Ext(w:NW)(H:Hp)(w':NW)(H':Hp):Prop extends ExtQ rW w w' where
 base:H'.B=H.B
structure fU(w:NW)(H:Hp)(w':NW)(H':Hp):Prop extends ExtQ (fun i=>H.B.contains i) w w' where
 base:H'.B=H.B
def Keep.refl(q:Nat->Bool)(w:NW):Keep q w w:=⟨Nat.le_refl _,fun _ _ h=>⟨rfl,h⟩,fun _ _ _ _ h=>h⟩
theorem ExtQ.refl(q:Nat->Bool)(w:NW):ExtQ q w w:={ Keep.refl q w with os:=rfl,tape:=rfl,output:=rfl,rest:=fun _ _ h k=>⟨rfl,h,k⟩ }
theorem Ext.refl(w:NW)(H:Hp):Ext w H w H:={ ExtQ.refl _ w with base:=rfl }
theorem fU.refl(w:NW)(H:Hp):fU w H w H:={ ExtQ.refl _ w with base:=rfl }
theorem Keep.trans{q:Nat->Bool}{a b c:NW}(h:Keep q a b)(k:Keep q b c):Keep q a c:=
 ⟨Nat.le_trans h.size k.size,fun n hn hO=>⟨(k.free n (Nat.lt_of_lt_of_le hn h.size) (h.free n hn hO).2).1.trans (h.free n hn hO).1,(k.free n (Nat.lt_of_lt_of_le hn h.size) (h.free n hn hO).2).2⟩,fun i m z hq hz=>k.names i m z hq (h.names i m z hq hz)⟩
theorem ExtQ.trans{q:Nat->Bool}{a b c:NW}(h:ExtQ q a b)(k:ExtQ q b c):ExtQ q a c:={ h.toKeep.trans k.toKeep with
 os:=k.os.trans h.os,tape:=k.tape.trans h.tape,output:=k.output.trans h.output
 rest:=fun n hn hO Vd=>by obtain⟨h1,h2,h3⟩:=h.rest n hn hO Vd;obtain⟨k1,k2,k3⟩:=k.rest n (Nat.lt_of_lt_of_le hn h.size) h2 h3;exact⟨k1.trans h1,k2,k3⟩ }
def ExtQ.mono{q p:Nat->Bool}{a b:NW}(h:ExtQ q a b)(hp:∀i,p i=true->q i=true):ExtQ p a b:={ h with names:=fun i m z hq hz=>h.names i m z (hp i hq) hz }
theorem Ext.trans{a b c:NW}{H H' VU:Hp}(h:Ext a H b H')(k:Ext b H' c VU):Ext a H c VU:={ h.toExtQ.trans k.toExtQ with base:=k.base.trans h.base }
theorem fU.trans{a b c:NW}{H H' VU:Hp}(h:fU a H b H')(k:fU b H' c VU):fU a H c VU:={ h.toExtQ.trans (k.toExtQ.mono fun i hi=>by rw[h.base];exact hi)with base:=k.base.trans h.base }
variable{H:Hp}
def Ext.qA{a b:NW}{H':Hp}(h:Ext a H b H'):fU a H b H':={ h.toExtQ.mono fun _ _=>rfl with base:=h.base }
def p8(a:Addr)(n:Nat):(a.add n).block=a.block:=by unfold Addr.add;split<;>rfl
def xl(a:Addr)(i j:Nat):(a.add i).add j=a.add (i+j):=by unfold Addr.add;by_cases hi:i=0<;>by_cases hj:j=0<;>simp[hi,hj,Nat.add_assoc]
def A7(a:Addr):a.add 0=a:=rfl
def j3(b o n:Nat):(⟨b,o,none⟩:Addr).add n=⟨b,o+n,none⟩:=by unfold Addr.add;split<;>simp_all
theorem Keep.bare{q:Nat->Bool}{w w':NW}(k:Keep q w w'):Keep rW w.bare w'.bare:=⟨k.size,k.free,fun i m z _ h=>by cases h⟩
def aw.aU{a:AV}{v:Value}(h:aw w a v):∀{q:Nat->Bool} {w':NW},Keep q w w'->a.all q=true->aw w' a v:=by
 induction h with
 |raw v=>intro q w' _ _;exact .raw v
 |any v=>intro q w' _ _;exact .any v
 |agg cs vs hl _ ih=>intro q w' k ha;simp only[AV.all]at ha;exact .agg cs vs hl fun i a v h1 h2=>ih i a v h1 h2 k (mH ha h1)
 |aY cs vs hl _ ih=>intro q w' k ha;simp only[AV.all]at ha;exact .aY cs vs hl fun i a v h1 h2=>ih i a v h1 h2 k (mH ha h1)
 |hJ x sz A c hx=>intro q w' _ _;exact .hJ x sz A c hx
 |@sl w d x sz css a c vs hn hc hx Vb hb hH D' _ ih=>
  intro q w' k _;have hk:=k.free _ hb hH;refine .sl x sz css a c vs hn hc (fun h=>⟨(hx h).1,by obtain⟨cur,el,hp⟩:=(hx h).2;exact⟨cur,el,hk.1.trans hp⟩⟩) Vb (Nat.lt_of_lt_of_le hb k.size) hk.2 (fun i j hi hj=>?_) fun i j u hi hu=>ih i j u hi hu k.bare (nH u)
  rw[World.cell?_of_block (w:=w.toWorld) (by rw[p8];exact hk.1)];exact D' i j hi hj
 |@ip w cs a vs hb hH D' _ ih=>
  intro q w' k _;have hk:=k.free _ hb hH;refine .ip cs a vs (Nat.lt_of_lt_of_le hb k.size) hk.2 (fun j hj=>?_) fun j u hu=>ih j u hu k.bare (nH u)
  rw[World.cell?_of_block (w:=w.toWorld) (by rw[p8];exact hk.1)];exact D' j hj
 |gd p a v _ hu ih=>intro q w' k ha;exact .gd p a v (fun hp=>ih hp k (by simpa only[AV.all]using ha)) hu
 |eT f cs vs hl _ ih=>intro q w' k ha;simp only[AV.all]at ha;exact .eT f cs vs hl fun i a v h1 h2=>ih i a v h1 h2 k (mH ha h1)
 |pt i m o j b t s h=>intro q w' k ha;exact .pt i m o j b t s (k.names _ _ _ (by simpa only[AV.all]using ha) h)
 |iH i m sz A h=>intro q w' k ha;exact .iH i m sz A (k.names _ _ _ (by simpa only[AV.all]using ha) h)
 |rs i m sz n b t c h hc hn hs=>intro q w' k ha;exact .rs i m sz n b t c (k.names _ _ _ (by simpa only[AV.all]using ha) h) hc hn hs
 |rc i m sz n b t h hc hn hs=>intro q w' k ha;exact .rc i m sz n b t (k.names _ _ _ (by simpa only[AV.all]using ha) h) hc hn hs
 |kj i m sz o c A=>intro q w' _ _;exact .kj i m sz o c A
 |rv i m sz o n b t c h hn=>intro q w' k ha;exact .rv i m sz o n b t c (k.names _ _ _ (by simpa only[AV.all]using ha) h) hn
 |mr i b t s h=>intro q w' k ha;exact .mr i b t s (k.names _ _ _ (by simpa only[AV.all]using ha) h)
 |bd f fs vs hl _ ih=>intro q w' k ha;simp only[AV.all]at ha;exact .bd f fs vs hl fun i a v h1 h2=>ih i a v h1 h2 k (mH ha h1)
 |iS t a v _ ih=>intro q w' k ha;exact .iS t a v (ih k (by simpa only[AV.all]using ha))
 |mv m a v _ ih=>intro q w' k ha;exact .mv m a v (ih k (by simpa only[AV.all]using ha))
def aw.ext{w':NW}{H':Hp}(e:Ext w H w' H'){a:AV}{v:Value}(h:aw w a v):aw w' a v:=h.aU e.toKeep (nH a)
theorem br.ext{w w':NW}{H H':Hp}(e:Ext w H w' H'){F:List AV}{tm:Array Value}(h:br w F tm):br w' F tm:=⟨h.1,fun i a v ha hv=>(h.2 i a v ha hv).ext e⟩
theorem br.aU{q:Nat->Bool}{w w':NW}(k:Keep q w w'){F:List AV}{tm:Array Value}(h:br w F tm)(hF:aR q F=true):br w' F tm:=⟨h.1,fun i a v ha hv=>(h.2 i a v ha hv).aU k (mH hF ha)⟩
abbrev eo:Nat->Bool:=fun _=>false
def Keep.lN(w:NW):Keep eo w w.bare:=⟨Nat.le_refl _,fun _ _ h=>⟨rfl,h⟩,fun _ _ _ h _=>by cases h⟩
def Keep.mY(w:NW):Keep rW w.bare w:=⟨Nat.le_refl _,fun _ _ h=>⟨rfl,h⟩,fun _ _ _ _ h=>by cases h⟩
theorem aw.lN{w:NW}{a:AV}{v:Value}(h:aw w a v)(ha:a.all eo=true):aw w.bare a v:=h.aU (Keep.lN w) ha
theorem aw.mY{w:NW}{a:AV}{v:Value}(h:aw w.bare a v):aw w a v:=h.aU (Keep.mY w) (nH a)
variable{i:Nat}
def aF.lt(h:aF w H){m b t s:Nat}(hn:w.nm i m=some (.at b t s)):b<w.heap.size:=h.fin b (h.own _ _ _ _ _ hn)
theorem aF.none{w:NW}{H:Hp}(h:aF w H){i:Nat}(hi:H.get i=none)(m:Nat):w.nm i m=none:=by
 cases e:w.nm i m with
 |none=>rfl
 |some z=>obtain⟨r,hr,_⟩:=h.dt i m z e;rw[hi]at hr;cases hr
def aF.later(h:aF w H){m:Nat}(hi:H.get i=some r)(hm:r.fD<m):w.nm i m=Option.none:=by
 cases e:w.nm i m with
 |none=>rfl
 |some z=>obtain⟨s,hs,Vj⟩:=h.dt i m z e;rw[hi]at hs;cases hs;omega
theorem gD.ext{w w':NW}{H H':Hp}(e:Ext w H w' H'){r:Row}{z:Rz}(hz:∀b t s,z=.at b t s->w'.heap[b]?=w.heap[b]?)(h:gD w r z):gD w' r z:=by
 cases z with
 |nil=>exact h
 |«at» b t s=> obtain⟨h1,cur,h2,h3,h5⟩:=h;exact⟨h1,cur,(hz b t s rfl).trans h2,h3,fun i a v ha hv=>(h5 i a v ha hv).ext e⟩
@[reducible] def NW.to(w:NW)(W:World):NW:={ w with toWorld:=W }
def NW.name(w:NW)(i m:Nat)(z:Rz):NW:={ w with nm:=fun j n=>if j=i/\n=m then some z else w.nm j n }
def NW.ci(w:NW)(i m:Nat)(z:Rz):(w.name i m z).nm i m=some z:=if_pos ⟨rfl,rfl⟩
def NW.fZ(w:NW)(b:Nat):NW:={ w with O:=fun c=>c=b\/w.O c }
def Ext.fg(r:aF w H)(o:Obj):Ext w H (w.to (w.alloc o)) H:={
 size:=jE
 free:=fun b hb hn=>⟨RowKit.Below.heap_alloc w.toWorld o b hb,hn⟩
 names:=fun _ _ _ _ h=>h
 os:=rfl,tape:=rfl,output:=rfl
 rest:=fun b hb hO Vd=>⟨RowKit.Below.heap_alloc w.toWorld o b hb,hO,Vd⟩
 base:=rfl }
theorem aF.fg{w:NW}{H:Hp}(r:aF w H)(o:Obj):aF (w.to (w.alloc o)) H:={
 rows:=fun i row hi=>by obtain⟨h1,z,h2,h3⟩:=r.rows i row hi;refine⟨h1,z,h2,h3.ext (Ext.fg r o) fun b t s e=>?_⟩;subst e;exact RowKit.Below.heap_alloc w.toWorld o b (r.lt h2)
 dt:=r.dt,inj:=r.inj,own:=r.own
 bY:=r.bY.aU (Ext.fg r o).toKeep
 fin:=fun b hb=>by have:=r.fin b hb;simp;omega }
theorem Ext.drew(w:NW)(H:Hp):Ext w H (w.to w.drew) H:={ size:=Nat.le_refl _,free:=fun _ _ h=>⟨rfl,h⟩,names:=fun _ _ _ _ h=>h,os:=rfl,tape:=rfl,output:=rfl,rest:=fun _ _ h k=>⟨rfl,h,k⟩,base:=rfl }
theorem aF.drew{w:NW}{H:Hp}(r:aF w H):aF (w.to w.drew) H:={
 rows:=fun i row hi=>by obtain⟨h1,z,h2,h3⟩:=r.rows i row hi;exact⟨h1,z,h2,h3.ext (Ext.drew w H) fun b t s e=>rfl⟩
 dt:=r.dt,inj:=r.inj,own:=r.own,fin:=r.fin,bY:=r.bY.aU (Ext.drew w H).toKeep }
def vQ(r:aF w H){row:Row}(YN:w.nm i row.fD=none)(XL:∀r',H.get i=some r'->r'.fD<=row.fD)(hok:row.ok)(cur:Array Value)(Vj:row.fit cur.size cur.size)
  (hc:∀(k:Nat) a v,row.cells[k]?=some a->cur[k]?=some v->aw w a v) :
  aF (((w.to (w.alloc (row.obj cur))).fZ w.heap.size).name i row.fD (.at w.heap.size cur.size row.bB)) (H.put i row)/\
  Ext w H (((w.to (w.alloc (row.obj cur))).fZ w.heap.size).name i row.fD (.at w.heap.size cur.size row.bB)) (H.put i row):=by
 have ex:Ext w H (((w.to (w.alloc (row.obj cur))).fZ w.heap.size).name i row.fD (.at w.heap.size cur.size row.bB)) (H.put i row):={
  size:=by show w.heap.size<=(w.alloc _).heap.size;simp
  free:=fun b hb hn=>⟨RowKit.Below.heap_alloc w.toWorld _ b hb,fun h=>by
   rcases h with h|h
   ·omega
   ·exact hn h⟩
  names:=fun j n z _ h=>by
   show(if j=i/\n=row.fD then _ else _)=_;rw[if_neg]
   ·exact h
   ·rintro⟨rfl,rfl⟩;rw[YN]at h;cases h
  os:=rfl,tape:=rfl,output:=rfl
  rest:=fun b hb hO Vd=>⟨RowKit.Below.heap_alloc w.toWorld _ b hb,.inr hO,fun j n t s h=>by
   have h:(if j=i/\n=row.fD then some (Rz.at w.heap.size cur.size row.bB)else w.nm j n)=some (.at b t s):=h;split at h
   ·cases h;omega
   ·exact Vd _ _ _ _ h⟩
  base:=rfl }
 have V9:∀j n,(((w.to (w.alloc (row.obj cur))).fZ w.heap.size).name i row.fD (.at w.heap.size cur.size row.bB)).nm j n=if j=i/\n=row.fD then some (Rz.at w.heap.size cur.size row.bB)else w.nm j n:=fun _ _=>rfl
 refine⟨{ rows:=fun j s hj=>?_,dt:=fun j n z hz=>?_,inj:=fun j n j' n' b t s t' s' h1 h2=>?_,own:=fun j n b t s h=>?_,fin:=fun b hb=>?_,bY:=r.bY.aU ex.toKeep },ex⟩
 ·rw[Hp.bj]at hj;split at hj
  ·rename_i e;subst e;cases hj;refine⟨hok,.at w.heap.size cur.size row.bB,by rw[V9,if_pos ⟨rfl,rfl⟩],rfl,cur,heap_alloc_new w.toWorld _,Vj,fun k a v ha hv=>(hc k a v ha hv).ext ex⟩
  ·rename_i e;obtain⟨h1,z,h2,h3⟩:=r.rows j s hj;refine⟨h1,z,by rw[V9,if_neg (fun h=>e h.1)];exact h2,h3.ext ex fun b t s e=>?_⟩;subst e;exact RowKit.Below.heap_alloc w.toWorld _ b (r.lt h2)
 ·rw[V9]at hz;rw[Hp.bj];split at hz
  ·rename_i e;exact⟨row,by rw[if_pos e.1],by rw[e.2];exact Nat.le_refl _⟩
  ·obtain⟨r',h1,h2⟩:=r.dt j n z hz;by_cases e:j=i
   ·subst e;exact⟨row,by rw[if_pos rfl],Nat.le_trans h2 (XL r' h1)⟩
   ·exact⟨r',by rw[if_neg e];exact h1,h2⟩
 ·rw[V9]at h1 h2;split at h1<;>split at h2
  ·rename_i e1 e2;rw[e1.1,e2.1]
  ·cases h1;have:=r.lt h2;omega
  ·cases h2;have:=r.lt h1;omega
  ·exact r.inj _ _ _ _ _ _ _ _ _ h1 h2
 ·rw[V9]at h;split at h
  ·cases h;exact .inl rfl
  ·exact .inr (r.own _ _ _ _ _ h)
 ·show b<(w.alloc _).heap.size;rcases hb with h|h
  ·subst h;simp
  ·have:=r.fin b h;simp;omega
def KB{W:World}(r:aF w H){row row':Row}{b t:Nat}(hi:H.get i=some row)(hn:w.nm i row.fD=some (.at b t row.bB))(hs:row'.bB=row.bB)(hv:row.fD<=row'.fD)(hok:row'.ok)
  (h1:W.os=w.os) (h2:W.tape=w.tape) (h3:W.output=w.output) (Vb:W.heap.size=w.heap.size) (hk:∀c,c≠b->W.heap[c]?=w.heap[c]?) (cur:Array Value) (Yh:W.heap[b]?=some (row'.obj cur)) (Wz:row'.fit cur.size t)
  (hc:∀(k:Nat) a v,row'.cells[k]?=some a->cur[k]?=some v->aw w a v) :
  aF ((w.to W).name i row'.fD (.at b t row.bB)) (H.put i row')/\Ext w H ((w.to W).name i row'.fD (.at b t row.bB)) (H.put i row'):=by
 have hO:=r.own _ _ _ _ _ hn;have ex:Ext w H ((w.to W).name i row'.fD (.at b t row.bB)) (H.put i row'):={
  size:=by show w.heap.size<=W.heap.size;omega
  free:=fun c hc hO'=>⟨hk c (fun e=>hO' (e ▸ hO)),hO'⟩
  names:=fun j n z _ h=>by
   show(if j=i/\n=row'.fD then _ else _)=_;split
   ·rename_i e;obtain⟨rfl,rfl⟩:=e;obtain⟨r',g1,g2⟩:=r.dt _ _ _ h;rw[hi]at g1;cases g1;have:row.fD=row'.fD:=jB;rw[<-this,hn]at h;exact h
   ·exact h
  os:=h1,tape:=h2,output:=h3
  rest:=fun c hc hO' Vd=>⟨hk c (fun e=>Vd _ _ _ _ (e ▸ hn)),hO',fun j n t' s h=>by
   have h:(if j=i/\n=row'.fD then some (Rz.at b t row.bB)else w.nm j n)=some (.at c t' s):=h;split at h
   ·cases h;exact Vd _ _ _ _ hn
   ·exact Vd _ _ _ _ h⟩
  base:=rfl }
 have V9:∀j n,((w.to W).name i row'.fD (.at b t row.bB)).nm j n=if j=i/\n=row'.fD then some (Rz.at b t row.bB)else w.nm j n:=fun _ _=>rfl
 refine⟨{ rows:=fun j s hj=>?_,dt:=fun j n z hz=>?_,inj:=fun j n j' n' b' t1 s t' s' g1 g2=>?_,own:=fun j n b' t' s h=>?_,fin:=fun c hb=>?_,bY:=r.bY.aU ex.toKeep },ex⟩
 ·rw[Hp.bj]at hj;split at hj
  ·rename_i e;subst e;cases hj;exact⟨hok,.at b t row.bB,by rw[V9,if_pos ⟨rfl,rfl⟩],hs.symm,cur,Yh,Wz,fun k a v ha hv=>(hc k a v ha hv).ext ex⟩
  ·rename_i e;obtain⟨g1,z,g2,g3⟩:=r.rows j s hj;refine⟨g1,z,by rw[V9,if_neg (fun h=>e h.1)];exact g2,g3.ext ex fun c t' s' e'=>?_⟩;subst e';exact hk c fun e'=>by subst e';exact e (r.inj _ _ _ _ _ _ _ _ _ g2 hn)
 ·rw[V9]at hz;rw[Hp.bj];split at hz
  ·rename_i e;exact⟨row',by rw[if_pos e.1],by rw[e.2];exact Nat.le_refl _⟩
  ·obtain⟨r',g1,g2⟩:=r.dt j n z hz;by_cases e:j=i
   ·subst e;rw[hi]at g1;cases g1;exact⟨row',by rw[if_pos rfl],Nat.le_trans g2 hv⟩
   ·exact⟨r',by rw[if_neg e];exact g1,g2⟩
 ·rw[V9]at g1 g2;split at g1<;>split at g2
  ·rename_i e1 e2;rw[e1.1,e2.1]
  ·rename_i e1 _;cases g1;rw[e1.1];exact r.inj _ _ _ _ _ _ _ _ _ hn g2
  ·rename_i _ e2;cases g2;rw[e2.1];exact r.inj _ _ _ _ _ _ _ _ _ g1 hn
  ·exact r.inj _ _ _ _ _ _ _ _ _ g1 g2
 ·rw[V9]at h;split at h
  ·cases h;exact hO
  ·exact r.own _ _ _ _ _ h
 ·show c<W.heap.size;have:=r.fin c hb;omega
variable{sz:Nat}
def yc(r:aF w H)(hi:H.get i=none)(e:TypeId)(Vb:0<sz):aF (w.name i 0 .nil) (H.put i (.aD e sz []))/\Ext w H (w.name i 0 .nil) (H.put i (.aD e sz [])):=by
 have haw:=r.none hi;have V9:∀j n,(w.name i 0 .nil).nm j n=if j=i/\n=0 then some Rz.nil else w.nm j n:=fun _ _=>rfl
 have ex:Ext w H (w.name i 0 .nil) (H.put i (.aD e sz [])):={
  size:=Nat.le_refl _,free:=fun _ _ h=>⟨rfl,h⟩
  names:=fun j n z _ h=>by
   rw[V9,if_neg]
   ·exact h
   ·rintro⟨rfl,rfl⟩;rw[haw]at h;cases h
  os:=rfl,tape:=rfl,output:=rfl
  rest:=fun b hb hO Vd=>⟨rfl,hO,fun j n t s h=>by
   rw[V9]at h;split at h
   ·cases h
   ·exact Vd _ _ _ _ h⟩
  base:=rfl }
 refine⟨{ rows:=fun j s hj=>?_,dt:=fun j n z hz=>?_,inj:=fun j n j' n' b t s t' s' h1 h2=>?_,own:=fun j n b t s h=>?_,fin:=r.fin,bY:=r.bY.aU ex.toKeep },ex⟩
 ·rw[Hp.bj]at hj;split at hj
  ·rename_i e';subst e';cases hj;exact⟨⟨Vb,fun _ h=>by simp at h⟩,.nil,by rw[V9];exact if_pos ⟨rfl,rfl⟩,e,sz,rfl⟩
  ·rename_i e';obtain⟨h1,z,h2,h3⟩:=r.rows j s hj;exact⟨h1,z,by rw[V9,if_neg (fun h=>e' h.1)];exact h2,h3.ext ex fun b t s _=>rfl⟩
 ·rw[V9]at hz;rw[Hp.bj];split at hz
  ·rename_i e';exact⟨_,by rw[if_pos e'.1],by rw[e'.2];exact Nat.zero_le _⟩
  ·obtain⟨r',h1,h2⟩:=r.dt j n z hz;have e':j≠i:=fun e'=>by subst e';rw[hi]at h1;cases h1
   exact⟨r',by rw[if_neg e'];exact h1,h2⟩
 ·rw[V9]at h1 h2;split at h1
  ·cases h1
  ·split at h2
   ·cases h2
   ·exact r.inj _ _ _ _ _ _ _ _ _ h1 h2
 ·rw[V9]at h;split at h
  ·cases h
  ·exact r.own _ _ _ _ _ h
def Em(i:Nat):Nat->Bool:=fun j=>!(j == i)
def JF(i:Nat):List (Nat×Row)->Bool
 |[]=>true
 |(j,r)::l=>(j == i || aR (Em i) r.cells) && JF i l
-- abstract j8
def bM(F:List AV):Operand->AV
 |.tmp t=>F.getD t .any
 |.const v=>.raw v
 |.global g=>.raw (.pointer (some ⟨g,0,none⟩))
 |.func f=>.raw (.func (.func f) #[] #[])
def cr(F:List AV)(d:Option Tmp)(a:AV):List AV:=match d with
 |some d=>F.set d a
 |none=>F
theorem br.eval{w:NW}{F:List AV}{tm:Array Value}(h:br w F tm)(ds:List Deferred)(x:Operand):aw w (bM F x) ((Act.mk tm ds).eval x):=by
 cases x with
 |tmp t=>
  simp only[bM,Act.eval];by_cases ht:t<F.length
  ·have XM:t<tm.size:=by rw[<-h.1];exact ht
   have h1:F[t]?=some (F.getD t .any):=by simp[ht]
   have h2:tm[t]?=some (tm.getD t undef):=by simp[XM]
   exact h.2 t _ _ h1 h2
  ·have:F.getD t .any=.any:=by simp[List.getElem?_eq_none (Nat.le_of_not_lt ht)]
   rw[this];exact .any _
 |const v=>exact .raw v
 |global g=>exact .raw _
 |func f=>exact .raw _
theorem br.put{w:NW}{F:List AV}{tm:Array Value}(h:br w F tm)(d:Option Tmp){a:AV}{v:Value}(hv:aw w a v)(ds:List Deferred):br w (cr F d a) ((Act.mk tm ds).put d v).tmps:=by
 cases d with
 |none=>exact h
 |some d=>
  refine⟨by simp[cr,Act.put,h.1],fun i a' v' ha Ve=>?_⟩;simp only[cr,Act.put]at ha Ve;rw[List.getElem?_set]at ha;rw[Array.getElem?_setIfInBounds]at Ve;by_cases hd:d=i
  ·subst hd;simp only[if_true]at ha Ve;split at ha<;>split at Ve<;>simp_all
  ·simp only[if_neg hd]at ha Ve;exact h.2 i a' v' ha Ve
def Act.put_eq(tm:Array Value)(ds:List Deferred)(d:Option Tmp)(v:Value):(Act.mk tm ds).put d v=⟨((Act.mk tm ds).put d v).tmps,ds⟩:=by cases d<;>rfl
def gZ(Q:Exit->List AV->Hp->Prop)(w:NW)(H:Hp):Exit->Act->World->Prop:=fun e a W=> ∃tm F' H' w',W=w'.toWorld/\a=⟨tm,[]⟩/\Q e F' H'/\aF w' H'/\br w' F' tm/\fU w H w' H'
def dJ(P:Program)(c:Code)(Q:Exit->List AV->Hp->Prop)(F:List AV)(H:Hp):Prop:=
 ∀(w:NW) tm,aF w H->br w F tm->Code.wp P c (gZ Q w H) ⟨tm,[]⟩ w.toWorld
def dM(F:List AV)(H:Hp)(F':List AV)(H':Hp):Prop:=∀(w:NW) tm,aF w H->br w F tm->∃w':NW,w'.toWorld=w.toWorld/\aF w' H'/\br w' F' tm/\fU w H w' H'
theorem dM.trans{F F' F'':List AV}{H H' VU:Hp}(h:dM F H F' H')(k:dM F' H' F'' VU):dM F H F'' VU:=fun w tm h1 h2=>by obtain⟨w',e,a,b,c⟩:=h w tm h1 h2;obtain⟨w'',e',a',b',c'⟩:=k w' tm a b;exact⟨w'',e'.trans e,a',b',c.trans c'⟩
def kS:List AV->List AV->Prop
 |[],[]=>True
 |a::l,b::m=>(b=.any\/a=b)/\kS l m
 |_,_=>False
theorem kS.get:∀{l m:List AV},kS l m->l.length=m.length/\∀(i:Nat) a b,l[i]?=some a->m[i]?=some b->b=.any\/a=b
 |[],[],_=>⟨rfl,fun i a b h=>by simp at h⟩
 |x::l,y::m,h=>by
  have ih:=kS.get h.2;refine⟨by simp[ih.1],fun i a b ha hb=>?_⟩;cases i with
  |zero=>simp at ha hb;subst ha hb;exact h.1
  |succ i=>exact ih.2 i a b (by simpa using ha) (by simpa using hb)
def dM.pt{F F':List AV}(H:Hp)(h:kS F F'):dM F H F' H:=fun w tm h1 h2=>by
 obtain⟨hl,hg⟩:=h.get;refine⟨w,rfl,h1,⟨hl.symm.trans h2.1,fun i a v ha hv=>?_⟩,fU.refl w H⟩;have hi:i<F.length:=by rw[hl];exact(List.getElem?_eq_some_iff.1 ha).1
 rcases hg i F[i] a (List.getElem?_eq_getElem hi) ha with rfl|he
 ·exact .any v
 ·exact he ▸ h2.2 i _ v (List.getElem?_eq_getElem hi) hv
def ER(lo n:Nat)(F:List AV):List AV:=F.take lo++List.replicate n .any++F.drop (lo+n)
def ph(W:List (Nat×Nat))(F:List AV):List AV:=W.foldl (fun F d=>ER d.1 d.2 F) F
section
variable {P:Program}{Q Q':Exit->List AV->Hp->Prop}{F:List AV}{H:Hp}
def gZ.qo{w w':NW}{H H':Hp}(e:fU w H w' H'){x:Exit}{a:Act}{w'':World}(h:gZ Q w' H' x a w''):gZ Q w H x a w'':=by obtain⟨tm,F',VU,n,h0,h1,h2,h3,h4,h5⟩:=h;exact⟨tm,F',VU,n,h0,h1,h2,h3,h4,e.trans h5⟩
def iQ{c:Code}{F':List AV}{H':Hp}(hl:dM F H F' H')(h:dJ P c Q F' H'):dJ P c Q F H:=fun w tm h1 h2=>by obtain⟨w',e0,a,b,e⟩:=hl w tm h1 h2;rw[<-e0];exact wp_mono (h w' tm a b) fun _ _ _ hp=>hp.qo e
def uq(next:List AV->Hp->Prop)(Q:Exit->List AV->Hp->Prop):Exit->List AV->Hp->Prop
 |.normal,F,H=>next F H
 |e,F,H=>Q e F H
def sU(id:Nat)(Q:Exit->List AV->Hp->Prop):Exit->List AV->Hp->Prop
 |.exit id',F,H=>if id'=id then Q .normal F H else Q (.exit id') F H
 |e,F,H=>Q e F H
variable{x y:Code}
def KU(h:dJ P x (uq (dJ P y Q) Q) F H):dJ P (.seq x y) Q F H:=fun w tm h1 h2=>by
 refine wp_seq (wp_mono (h w tm h1 h2) ?_);rintro e a W ⟨VI,F',H',w',rfl,rfl,hq,h3,h4,h5⟩;cases e with
 |normal=>exact wp_mono (hq w' VI h3 h4) fun _ _ _ hp=>hp.qo h5
 |exit id=>exact⟨VI,F',H',w',rfl,rfl,hq,h3,h4,h5⟩
 |goto l=>exact⟨VI,F',H',w',rfl,rfl,hq,h3,h4,h5⟩
 |ret=>exact⟨VI,F',H',w',rfl,rfl,hq,h3,h4,h5⟩
 |panic ch=>exact⟨VI,F',H',w',rfl,rfl,hq,h3,h4,h5⟩
 |outgrown=>exact⟨VI,F',H',w',rfl,rfl,hq,h3,h4,h5⟩
def au(h:∀K:List AV->Hp->Prop,(∀F H,dJ P y Q F H->K F H)->dJ P x (uq K Q) F H):dJ P (.seq x y) Q F H:=KU (h _ fun _ _ h=>h)
def BN{c:Code}{e:Exit}(hc:∀(R:Exit->Act->World->Prop) a w,R e a w->Code.wp P c R a w)(h:Q e F H):dJ P c Q F H:=fun w tm h1 h2=>hc _ _ _ ⟨tm,F,H,w,rfl,rfl,h,h1,h2,fU.refl w H⟩
def Ti(h:Q .normal F H):dJ P .skip Q F H:=BN (fun _ _ _ h=>wp_skip h) h
def Uz{id:Nat}(h:Q (.exit id) F H):dJ P (.exit id) Q F H:=BN (fun _ _ _ h=>wp_exit h) h
def SP(h:Q .ret F H):dJ P .ret Q F H:=BN (fun _ _ _ h=>wp_ret h) h
def KQ{c:Operand}{b:Bool}(hc:bM F c=.raw (.bool b))(ht:b=true->dJ P x Q F H)(hf:b=false->dJ P y Q F H):dJ P (.cond c x y) Q F H:=fun w tm h1 h2=>by have he:=h2.eval [] c;rw[hc]at he;generalize hv:(Act.mk tm []).eval c=v at he;cases he;exact wp_cond_split hv (fun h=>ht h w tm h1 h2) (fun h=>hf h w tm h1 h2)
def Oy{id:Nat}{c:Code}(h:dJ P c (sU id Q) F H):dJ P (.block id c) Q F H:=fun w tm h1 h2=>by
 refine wp_block (wp_mono (h w tm h1 h2) ?_);rintro e a W ⟨VI,F',H',w',rfl,rfl,hq,h3,h4,h5⟩;cases e with
 |normal=>exact⟨VI,F',H',w',rfl,rfl,hq,h3,h4,h5⟩
 |exit id'=>
  simp only[sU]at hq;simp only[Exit.inBlock];split<;>rename_i hid
  ·rw[if_pos hid]at hq;exact⟨VI,F',H',w',rfl,rfl,hq,h3,h4,h5⟩
  ·rw[if_neg hid]at hq;exact⟨VI,F',H',w',rfl,rfl,hq,h3,h4,h5⟩
 |goto l=>exact⟨VI,F',H',w',rfl,rfl,hq,h3,h4,h5⟩
 |ret=>exact⟨VI,F',H',w',rfl,rfl,hq,h3,h4,h5⟩
 |panic ch=>exact⟨VI,F',H',w',rfl,rfl,hq,h3,h4,h5⟩
 |outgrown=>exact⟨VI,F',H',w',rfl,rfl,hq,h3,h4,h5⟩
def P9{S:Type}{c:Code}(I:S->List AV->Hp->Prop)(μ:S->Nat)(s₀:S){F₀:List AV}{H₀:Hp}(Vj:dM F H F₀ H₀)(h₀:I s₀ F₀ H₀)
  (round:∀s F H,I s F H->dJ P c (uq (fun F' H'=>∃s' F'' VU,μ s'<μ s/\dM F' H' F'' VU/\I s' F'' VU) Q) F H):dJ P (.loop c) Q F H:=fun w tm h1 h2=>by
 obtain⟨w0,ew,h1,h2,e0⟩:=Vj w tm h1 h2;rw[<-ew];refine wp_loop_ghost (fun n a W=>∃s F' H' VI w',μ s=n/\I s F' H'/\W=NW.toWorld w'/\a=⟨VI,[]⟩/\aF w' H'/\br w' F' VI/\fU w H w' H') (μ s₀) ⟨s₀,F₀,H₀,tm,w0,rfl,h₀,rfl,rfl,h1,h2,e0⟩ ?_;rintro n a W ⟨s,F',H',VI,w',rfl,hI,rfl,rfl,h3,h4,h5⟩;refine wp_mono (round s F' H' hI w' VI h3 h4) ?_;rintro e a W ⟨tm'',F'',VU,w'',rfl,rfl,hq,h6,h7,h8⟩;cases e with
 |normal=> obtain⟨s',F3,H3,I',hl,hI'⟩:=hq;obtain⟨w3,ew3,g1,g2,g3⟩:=hl w'' tm'' h6 h7;exact⟨μ s',I',s',F3,H3,tm'',w3,rfl,hI',ew3.symm,rfl,g1,g2,(h5.trans h8).trans g3⟩
 |exit id=>exact⟨tm'',F'',VU,w'',rfl,rfl,hq,h6,h7,h5.trans h8⟩
 |goto l=>exact⟨tm'',F'',VU,w'',rfl,rfl,hq,h6,h7,h5.trans h8⟩
 |ret=>exact⟨tm'',F'',VU,w'',rfl,rfl,hq,h6,h7,h5.trans h8⟩
 |panic ch=>exact⟨tm'',F'',VU,w'',rfl,rfl,hq,h6,h7,h5.trans h8⟩
 |outgrown=>exact⟨tm'',F'',VU,w'',rfl,rfl,hq,h6,h7,h5.trans h8⟩
end
-- regions
def te(P:Program)(ops:Array Oper)(Q:Exit->Act->World->Prop)(o:Oper)(next:Act->World->Prop)(a:Act)(w:World):Prop:=
 if Region.wanted o (yielded ops a.tmps)then o.wp P a w next Q\/(o.asks P a w/\LetsOut Q)else next (a.put o.dst undef) w
def nB(P:Program)(ops:Array Oper)(o:Oper)(F:List AV)(H:Hp)(K:List AV->Hp->Prop):Prop:=
 ∀(w:NW) tm (Q:Exit->Act->World->Prop) (next:Act->World->Prop),aF w H->br w F tm->
  (∀VI (w':NW) F' H',K F' H'->aF w' H'->br w' F' VI->Ext w H w' H'->next ⟨VI,[]⟩ w'.toWorld)->te P ops Q o next ⟨tm,[]⟩ w.toWorld
def vL(P:Program)(ops:Array Oper)(K:List AV->Hp->Prop)(l:List Oper)(F:List AV)(H:Hp):Prop:=
 ∀(w:NW) tm (Q:Exit->Act->World->Prop),aF w H->br w F tm->
  (∀VI (w':NW) F' H',K F' H'->aF w' H'->br w' F' VI->Ext w H w' H'->Q .normal ⟨VI,[]⟩ w'.toWorld)->wpList P ops Q l ⟨tm,[]⟩ w.toWorld
section
variable {P:Program}{ops:Array Oper}{F:List AV}{H:Hp}{K:List AV->Hp->Prop}
variable{o:Oper}
def nB.mono{K':List AV->Hp->Prop}(h:nB P ops o F H K)(hk:∀F H,K F H->K' F H):nB P ops o F H K':=
 fun w tm Q next h1 h2 hn=>h w tm Q next h1 h2 fun VI w' F' H' k=>hn VI w' F' H' (hk _ _ k)
def FJ(h:K F H):vL P ops K [] F H:=fun w tm Q h1 h2 hq=>hq tm w F H h h1 h2 (Ext.refl w H)
def IL{rest:List Oper}(h:nB P ops o F H (vL P ops K rest)):vL P ops K (o::rest) F H:=fun w tm Q h1 h2 hq=>by
 have:=h w tm Q (wpList P ops Q rest) h1 h2 fun VI w' F' H' k g1 g2 g3=>k w' VI Q g1 g2 fun tm'' w'' F'' VU k' g4 g5 g6=>hq tm'' w'' F'' VU k' g4 g5 (g3.trans g6)
 simpa only[te,wpList]using this
def Fa{id:Nat}{Q:Exit->List AV->Hp->Prop}(h:vL P ops (Q .normal) ops.toList F H):dJ P (.region id ops false) Q F H:=fun w tm h1 h2=> wp_region_list (h w tm (gZ Q w H) h1 h2 fun VI w' F' H' k g1 g2 g3=>⟨VI,F',H',w',rfl,rfl,k,g1,g2,g3.qA⟩)
def BX(P:Program)(o:Oper)(F:List AV)(H:Hp)(K:AV->Hp->Prop):Prop:=
 ∀(w:NW) tm,aF w H->br w F tm->∃(w':NW) (H':Hp) (r:AV),K r H'/\aF w' H'/\Ext w H w' H'/\
  ((∃v,(execOp (Act.mk tm []).eval o).run P w.toWorld=.ok (.value v) w'.toWorld/\aw w' r v)\/((execOp (Act.mk tm []).eval o).run P w.toWorld=.ok .skip w'.toWorld/\r=.any))
def MM(h:BX P o F H (fun r H'=>K (cr F o.dst r) H')){w:NW}{tm:Array Value}{Q:Exit->Act->World->Prop}{next:Act->World->Prop}(h1:aF w H)(h2:br w F tm)
  (hn:∀VI (w':NW) F' H',K F' H'->aF w' H'->br w' F' VI->Ext w H w' H'->next ⟨VI,[]⟩ w'.toWorld):o.wp P ⟨tm,[]⟩ w.toWorld next Q:=by
 obtain⟨w',H',r,hk,g1,g2,g3⟩:=h w tm h1 h2;rcases g3 with⟨v,hr,hv⟩|⟨hr,rfl⟩
 ·simp only[Oper.wp,hr,Oper.upon];rw[Act.put_eq];exact hn _ w' _ H' hk g1 ((h2.ext g2).put o.dst hv []) g2
 ·simp only[Oper.wp,hr,Oper.upon];rw[Act.put_eq];exact hn _ w' _ H' hk g1 ((h2.ext g2).put o.dst (.any _) []) g2
def LZ(hg:o.guard=none)(h:BX P o F H (fun r H'=>K (cr F o.dst r) H')):nB P ops o F H K:=fun w tm Q next h1 h2 hn=>by unfold te;rw[if_pos (by simp[Region.wanted,hg])];exact .inl (MM h h1 h2 hn)
end
-- calls
def ids(l:List (Nat×Row)):List Nat:=l.map (·.1)
def entry(l:List (Nat×Row)):Hp:=⟨ids l,l⟩
def ab(P:Program)(f:FuncId)(args:List AV)(l:List (Nat×Row))(R:AV->List (Nat×Row)->Prop):Prop:=
 ∀(w:NW) vs,aF w (entry l)->br w args vs->Calls P f vs w.toWorld fun e W=>∃v r H' w',W=NW.toWorld w'/\e=.returned v/\R r (Hp.l H')/\aF w' H'/\aw w' r v/\fU w (entry l) w' H'
theorem ab.mono{P:Program}{f:FuncId}{args:List AV}{l:List (Nat×Row)}{R R':AV->List (Nat×Row)->Prop}(h:ab P f args l R)(hr:∀r l',R r l'->R' r l'):ab P f args l R':=
 fun w vs h1 h2=>(h w vs h1 h2).mono fun _ _ ⟨v,r,H',w',e0,e,k,g⟩=>⟨v,r,H',w',e0,e,hr _ _ k,g⟩
def iN(r:AV)(H:Hp)(r':AV)(H':Hp):Prop:=∀(w:NW) v,aF w H->aw w r v->∃w':NW,w'.toWorld=w.toWorld/\aF w' H'/\aw w' r' v/\fU w H w' H'
theorem iN.refl(r:AV)(H:Hp):iN r H r H:=fun w _ h1 h2=>⟨w,rfl,h1,h2,fU.refl w H⟩
theorem iN.trans{a b c:AV}{H H' VU:Hp}(h:iN a H b H')(k:iN b H' c VU):iN a H c VU:=fun w v h1 h2=>by obtain⟨w',e,x,y,z⟩:=h w v h1 h2;obtain⟨w'',e',x',y',z'⟩:=k w' v x y;exact⟨w'',e'.trans e,x',y',z.trans z'⟩
def iN.of_eq{r r':AV}(H:Hp)(h:r=r'):iN r H r' H:=h ▸ iN.refl r H
-- a call, where more is owned than the function is Z4
def gB(l:List (Nat×Row)):List (Nat×Row)->List (Nat×Row)
 |[]=>l
 |(i,r)::m=>gB (aZ l i r) m
def NW.only(w:NW)(L:List Nat):NW:={ w with nm:=fun i m=>if L.contains i=true then w.nm i m else none }
theorem tW:∀{l:List (Nat×Row)} {i:Nat} {r:Row},az l i=some r->(ids l).contains i=true
 |[],_,_,h=>by cases h
 |(j,s)::l,i,r,h=>by
  simp only[az]at h;simp only[ids,List.map_cons,List.contains_cons,Bool.or_eq_true,beq_iff_eq];split at h
  ·rename_i e;exact .inl e
  ·exact .inr (tW (l:=l) h)
theorem zf:∀{l:List (Nat×Row)} {i:Nat},(ids l).contains i=true->∃r,az l i=some r
 |[],_,h=>by simp[ids]at h
 |(j,s)::l,i,h=>by
  simp only[ids,List.map_cons,List.contains_cons,Bool.or_eq_true,beq_iff_eq]at h;simp only[az];split
  ·exact⟨s,rfl⟩
  ·rename_i e;exact zf (h.resolve_left e)
theorem ud:∀(m l:List (Nat×Row)) (i:Nat),(∀j r,az m j=some r->True)->(ids m).Nodup->az (gB l m) i=(az m i).or (az l i)
 |[],l,i,_,_=>by simp[gB,az]
 |(j,s)::m,l,i,h,hn=>by
  simp only[ids,List.map_cons,List.nodup_cons]at hn;simp only[gB];rw[ud m _ i (fun _ _ _=>trivial) hn.2,bO];simp only[az];by_cases e:i=j
  ·subst e;have:az m i=none:=by
    cases e':az m i with
    |none=>rfl
    |some r=>exact(hn.1 (by have:=tW e';simpa[ids]using this)).elim
   simp[this]
  ·simp[e]
def zC{P:Program}{f:FuncId}{args:List AV}{l:List (Nat×Row)}{R:AV->List (Nat×Row)->Prop}{K:AV->Hp->Prop}(hc:ab P f args l R)(VJ:∀i r,az l i=some r->H.get i=some r)(Wi:aR (fun i=>(ids l).contains i) args=true)
  (hax:∀i r,az l i=some r->aR (fun i=>(ids l).contains i) r.cells=true)
  (hk:∀r l',R r l'->(∀i s,az l' i=some s->(ids l).contains i=true\/H.get i=none)/\(ids l').Nodup/\K r ⟨H.B,gB H.l l'⟩) {w:NW} {vs:Array Value} (h1:aF w H) (h2:br w args vs) :
  Calls P f vs w.toWorld fun e W=>∃v r H' w',W=NW.toWorld w'/\e=.returned v/\K r H'/\aF w' H'/\aw w' r v/\Ext w H w' H':=by
 have nmO:∀i m,(w.only (ids l)).nm i m=if(ids l).contains i=true then w.nm i m else none:=fun _ _=>rfl
 have kO:Keep (fun i=>(ids l).contains i) w (w.only (ids l)):=⟨Nat.le_refl _,fun _ _ h=>⟨rfl,h⟩,fun i m z hq h=>by rw[nmO,if_pos hq];exact h⟩;have hw1:aF (w.only (ids l)) (entry l):=by
  refine{ rows:=fun i r hi=>?_,dt:=fun i m z hz=>?_,inj:=fun i m j n b t s t' s' g1 g2=>?_,own:=fun i m b t s h=>?_,fin:=h1.fin,bY:=h1.bY.aU kO }
  ·obtain⟨g1,z,g2,g3⟩:=h1.rows i r (VJ i r hi);refine⟨g1,z,by rw[nmO,if_pos (tW (l:=l) hi)];exact g2,?_⟩;cases z with
   |nil=>exact g3
   |«at» b t s=> obtain⟨e1,cur,e2,e3,e5⟩:=g3;exact⟨e1,cur,e2,e3,fun k a v ha hv=>(e5 k a v ha hv).aU kO (mH (hax i r hi) ha)⟩
  ·rw[nmO]at hz;split at hz
   ·rename_i hi;obtain⟨r,hr⟩:=zf hi;obtain⟨r',e1,e2⟩:=h1.dt i m z hz;rw[VJ i r hr]at e1;cases e1;exact⟨r,hr,e2⟩
   ·cases hz
  ·rw[nmO]at g1 g2;split at g1<;>split at g2
   ·exact h1.inj _ _ _ _ _ _ _ _ _ g1 g2
   ·cases g2
   ·cases g1
   ·cases g1
  ·rw[nmO]at h;split at h
   ·exact h1.own _ _ _ _ _ h
   ·cases h
 refine(hc (w.only (ids l)) vs hw1 (h2.aU kO Wi)).mono ?_;rintro e W ⟨v,r,H',w',rfl,rfl,hR,g1,g2,g3⟩;obtain⟨k1,k2,k3⟩:=hk r H'.l hR;have YB:∀i,(ids l).contains i=true->∀m z,w.nm i m=some z->w'.nm i m=some z:=fun i hi m z hz=>g3.names i m z hi (by rw[nmO,if_pos hi];exact hz)
 -- who is the callee's, then
 let cq:Nat->Prop:=fun i=>(ids l).contains i=true\/∃s,az H'.l i=some s
 have hcq:∀i,¬cq i->(ids l).contains i=false/\az H'.l i=none:=fun i h=>⟨by cases e:(ids l).contains i with|true=>exact(h (.inl e)).elim|false=>rfl,by cases e:az H'.l i with|none=>rfl|some s=>exact(h (.inr ⟨s,e⟩)).elim⟩
 classical
 let w2:NW:={ w' with nm:=fun i m=>if cq i then w'.nm i m else w.nm i m }
 have nm2:∀i m,w2.nm i m=if cq i then w'.nm i m else w.nm i m:=fun _ _=>rfl
 -- the caller's other things
 have Xf:∀i m b t s,¬cq i->w.nm i m=some (.at b t s)->w'.heap[b]?=w.heap[b]?/\w'.O b/\∀i m t s,w'.nm i m≠some (.at b t s):=fun i m b t s hi hn=>by
  have Vd:∀i' m' t' s',(w.only (ids l)).nm i' m'≠some (.at b t' s'):=fun i' m' t' s' h=>by
   rw[nmO]at h;split at h
   ·rename_i VV;have:=h1.inj _ _ _ _ _ _ _ _ _ hn h;subst this;rw[(hcq _ hi).1]at VV;cases VV
   ·cases h
  exact g3.rest b (h1.lt hn) (h1.own _ _ _ _ _ hn) Vd
 have Z5:∀i,¬cq i->∀m,w'.nm i m=none:=fun i hi m=>g1.none (by exact(hcq i hi).2) m
 have k2':Keep rW w w2:=⟨g3.size,g3.free,fun i m z _ hz=>by
  rw[nm2];split
  ·rename_i hi;rcases hi with hi|⟨s,hs⟩
   ·exact YB i hi m z hz
   ·rcases k1 i s hs with hi|hi
    ·exact YB i hi m z hz
    ·rw[h1.none hi]at hz;cases hz
  ·exact hz⟩
 have k3':Keep rW w' w2:=⟨Nat.le_refl _,fun _ _ h=>⟨rfl,h⟩,fun i m z _ hz=>by
  rw[nm2];split
  ·exact hz
  ·rename_i hi;rw[Z5 i hi]at hz;cases hz⟩
 have Z6:Ext w H w2 ⟨H.B,gB H.l H'.l⟩:={ k2' with
  os:=g3.os,tape:=g3.tape,output:=g3.output
  rest:=fun b hb hO Vd=>by
   obtain⟨e1,e2,e3⟩:=g3.rest b hb hO fun i m t s h=>by
    rw[nmO]at h;split at h
    ·exact Vd _ _ _ _ h
    ·cases h
   refine⟨e1,e2,fun i m t s h=>?_⟩;rw[nm2]at h;split at h
   ·exact e3 _ _ _ _ h
   ·exact Vd _ _ _ _ h
  base:=rfl }
 have Vo:∀i,(Hp.mk H.B (gB H.l H'.l)).get i=(az H'.l i).or (H.get i):=fun i=>ud _ _ _ (fun _ _ _=>trivial) k2
 refine⟨v,r,_,w2,rfl,rfl,k3,{ rows:=fun i s hi=>?_,dt:=fun i m z hz=>?_,inj:=fun i m j n b t s t' s' e1 e2=>?_,own:=fun i m b t s h=>?_,fin:=g1.fin,bY:=h1.bY.aU Z6.toKeep },g2.aU k3' (nH r),Z6⟩
 ·rw[Vo]at hi;by_cases XN:cq i
  ·cases e:az H'.l i with
   |some s'=>
    rw[e]at hi;cases hi;obtain⟨e1,z,e2,e3⟩:=g1.rows i s e;refine⟨e1,z,by rw[nm2,if_pos XN];exact e2,?_⟩;cases z with
    |nil=>exact e3
    |«at» b t st=> obtain⟨f1,cur,f2,f3,f5⟩:=e3;exact⟨f1,cur,f2,f3,fun k a v ha hv=>(f5 k a v ha hv).aU k3' (nH a)⟩
   |none=>
    exfalso;rcases XN with VV|⟨s',Yi⟩
    ·obtain⟨r0,hr0⟩:=zf VV;obtain⟨_,z,e2,_⟩:=h1.rows i r0 (VJ i r0 hr0);obtain⟨r',e3,_⟩:=g1.dt i r0.fD z (YB i VV _ _ e2);rw[show H'.get i=az H'.l i from rfl,e]at e3;cases e3
    ·rw[e]at Yi;cases Yi
  ·rw[(hcq i XN).2,Option.none_or]at hi;obtain⟨e1,z,e2,e3⟩:=h1.rows i s hi;refine⟨e1,z,by rw[nm2,if_neg XN];exact e2,e3.ext Z6 fun b t st e=>?_⟩;subst e;exact(Xf i _ b t st XN e2).1
 ·rw[nm2]at hz;rw[Vo];split at hz
  ·obtain⟨s,e1,e2⟩:=g1.dt i m z hz;exact⟨s,by rw[show az H'.l i=some s from e1];rfl,e2⟩
  ·rename_i XN;rw[(hcq i XN).2,Option.none_or];exact h1.dt i m z hz
 ·rw[nm2]at e1 e2;split at e1<;>split at e2
  ·exact g1.inj _ _ _ _ _ _ _ _ _ e1 e2
  ·rename_i _ hj;exact((Xf _ _ _ _ _ hj e2).2.2 _ _ _ _ e1).elim
  ·rename_i hi _;exact((Xf _ _ _ _ _ hi e1).2.2 _ _ _ _ e2).elim
  ·exact h1.inj _ _ _ _ _ _ _ _ _ e1 e2
 ·rw[nm2]at h;split at h
  ·exact g1.own _ _ _ _ _ h
  ·rename_i hi;exact(Xf _ _ _ _ _ hi h).2.1
def cQ(P:Program)(t:TypeId):Option Nat:=(P.info? t).map (·.size)
def dv(P:Program)(t:TypeId):Option Bool:=(P.underlying t).map fun|.struct _|.array _ _=>true|_=>false
def bX(P:Program)(t:TypeId)(f:Nat):Option Nat:=match P.underlying t with
 |some (.struct fs)=>match fs[f]? with
  |some fd=>match cQ P fd.type with
   |some (_+1)=>some fd.offset
   |_=>none
  |none=>none
 |_=>none
def iE(P:Program)(t:TypeId):Option TypeId:=match P.underlying t with
 |some (.slice e)=>some e
 |_=>none
def dS(P:Program)(t:TypeId):Option (List Value):=((P.info? t).bind (·.zero)).map fun v=>v.cells.toList
def AV.one:AV->Bool
 |.raw v=>v.oneCell'
 |.sl ..=>true
 |.ip _=>true
 |.pt ..=>true
 |.rs ..=>true
 |.rc ..=>true
 |.rv ..=>true
 |.mr _=>true
 |.eT ..=>true
 |.bd ..=>true
 |.iS ..=>true
 |.mv ..=>true
 |_=>false
def cI(l:List AV):Bool:=l.all AV.one
def AV.cells:AV->List AV
 |.agg cs=>cs
 |.raw (.agg vs)=>vs.toList.map .raw
 |v=>[v]
def Good(sz:Nat)(css:List (List AV)):Prop:=∀cs∈css,cs.length=sz/\cI cs=true
def qj(H:Hp):AV->Option (Prop×List AV)
 |.ip cs=>some (True,cs)
 |.pt i m k j=>match H.get i with
  |some (.var _ cs)=>some (m=0,cs.drop j)
  |some (.aD _ _ css)=>some (m=css.length/\k<css.length,(css.getD k []).drop j)
  |some (.mp _ _)=>none
  |none=>none
 |_=>none
theorem ij{sz:Nat}:∀{l:List (List AV)},(∀x∈l,x.length=sz)->l.flatten.length=l.length*sz
 |[],_=>by simp
 |x::l,h=>by have ih:=ij (l:=l) (fun y hy=>h y (by simp[hy]));have hx:=h x jE;simp only[List.flatten_cons,List.length_append,hx,ih,List.length_cons,Nat.add_mul,Nat.one_mul];omega
theorem qC{sz:Nat}:∀{l:List (List AV)} {i j:Nat},(∀x∈l,x.length=sz)->i<l.length->j<sz->l.flatten[i*sz+j]?=(l.getD i [])[j]?
 |[],i,j,_,h,_=>by simp at h
 |x::l,i,j,hx,hi,hj=>by
  have Yj:=hx x jE;cases i with
  |zero=>simp only[List.flatten_cons,Nat.zero_mul,Nat.zero_add,List.getD_cons_zero];rw[List.getElem?_append_left jB]
  |succ i=> simp only[List.flatten_cons,List.getD_cons_succ];rw[List.getElem?_append_right (by rw[Nat.add_mul];omega),Yj,show(i+1)*sz+j-sz=i*sz+j by rw[Nat.add_mul];omega];exact qC (fun y hy=>hx y (by simp[hy])) (by simpa using hi) hj
def zv{j n:Nat}(hi:i<n)(hj:j<sz):i*sz+j<n*sz:=by have:=Nat.mul_le_mul_right sz (show i+1<=n from hi);rw[Nat.add_mul]at this;omega
def vn{k n:Nat}(h:k<n*sz):∃i j,i<n/\j<sz/\k=i*sz+j:=by
 have hz:0<sz:=by rcases Nat.eq_zero_or_pos sz with rfl|h'<;>simp_all
 exact⟨k / sz,k % sz,by rw[Nat.div_lt_iff_lt_mul hz];exact h,Nat.mod_lt _ hz,by rw[Nat.mul_comm];exact(Nat.div_add_mod k sz).symm⟩
def vu{css:List (List AV)}(h:∀cs∈css,cs.length=sz){k:Nat}(hk:k<css.length):(css.getD k []).length=sz:=by
 have:css.getD k []=css[k]:=by simp[hk]
 rw[this];exact h _ (List.getElem_mem hk)
section
variable {P:Program}{w:NW}{H:Hp}
theorem aw.one{a:AV}{v:Value}(h:aw w a v)(h1:a.one=true):v.oneCell'=true:=by cases h<;>first|exact h1|rfl|simp[AV.one]at h1
def td{w:World}(g i:Nat)(cur:Array Value)(t:TypeId)(fr:Nat×Nat)(hg:w.heap[g]?=some (.cells cur t fr)):w.cell? ⟨g,i,none⟩=cur[i]?:=by simp[World.cell?,hg]
variable{va:Value}{cs:List AV}
def Fx{a:AV}{c:Prop}(h:aw w a va)(hw:aF w H)(hc:qj H a=some (c,cs))(Yk:c) :
  ∃(ad:Addr) (vs:Nat->Value),va=.pointer (some ad)/\(∀j,j<cs.length->w.cell? (ad.add j)=some (vs j))/\∀(j:Nat) u,cs[j]?=some u->aw w u (vs j):=by
 unfold qj at hc;split at hc
 ·cases hc;cases h with
  |ip _ ad vs hb hH D' hr=>exact⟨ad,vs,rfl,D',fun j u hu=>(hr j u hu).mY⟩
 ·rename_i i m k j;cases h with
  |pt _ _ _ _ b t s hn=>
  split at hc
  ·rename_i ty cs' hi;cases hc;subst Yk;obtain⟨hok,z,hz,Vl⟩:=hw.rows i _ hi;have:z=.at b t s:=by have hz:w.nm i 0=some z:=hz;rw[hn]at hz;cases hz;rfl
   subst this;obtain⟨rfl,cur,hh,⟨hs,hl⟩,hr⟩:=Vl;have X4:(Row.var ty cs').bB=0:=rfl;refine⟨⟨b,k*(Row.var ty cs').bB+j,none⟩,fun q=>cur.getD (j+q) undef,rfl,fun q hq=>?_,fun q u hu=>?_⟩
   ·rw[j3,X4,Nat.mul_zero,Nat.zero_add,td b _ cur _ (0,0) hh];simp only[List.length_drop]at hq;have hl:cs'.length<=t:=hl;have:j+q<cur.size:=jB;simp[this]
   ·rw[List.getElem?_drop]at hu;have I':j+q<cs'.length:=(List.getElem?_eq_some_iff.1 hu).1;have hl:cs'.length<=t:=hl;have:j+q<cur.size:=jB;exact hr _ _ _ hu (by simp[this])
  ·rename_i e sz css hi;cases hc;obtain⟨rfl,hk⟩:=Yk;obtain⟨hok,z,hz,Vl⟩:=hw.rows i _ hi;have:z=.at b t s:=by have hz:w.nm i css.length=some z:=hz;rw[hn]at hz;cases hz;rfl
   subst this;obtain⟨hs_,cur,hh,⟨hs,hl⟩,hr⟩:=Vl;have hs_:sz=s:=hs_.symm;subst hs_;have X4:(Row.aD e sz css).bB=sz:=rfl;have J':=vu hok.2 hk;have Wm:(Row.aD e sz css).cells.length=css.length*sz:=ij hok.2;refine⟨⟨b,k*sz+j,none⟩,fun q=>cur.getD (k*sz+(j+q)) undef,rfl,fun q hq=>?_,fun q u hu=>?_⟩
   ·simp only[List.length_drop,J']at hq;rw[j3,td b _ cur _ (0,0) hh];have:=zv hk (show j+q<sz from jB);have:k*sz+(j+q)<cur.size:=jB;rw[Nat.add_assoc];simp[this]
   ·rw[List.getElem?_drop]at hu;have I':j+q<sz:=by have:=(List.getElem?_eq_some_iff.1 hu).1;omega
    have h3:=zv hk I';refine hr (k*sz+(j+q)) u _ ?_ ?_
    ·show css.flatten[k*sz+(j+q)]?=some u;rw[qC hok.2 hk I'];exact hu
    ·have:k*sz+(j+q)<cur.size:=jB;simp[this]
  ·cases hc
  ·cases hc
 ·cases hc
variable{t:TypeId}
def xH{w:World}{b:Bool}(h:dv P t=some b):(isAgg t).run P w=.ok b w:=by
 unfold dv at h;cases hu:P.underlying t with
 |none=>rw[hu]at h;cases h
 |some d=> rw[hu]at h;simp only[Option.map_some,Option.some.injEq]at h;simp only[isAgg,Sem.run_bind,run_underlying hu,Result.andThen_ok];subst h;cases d<;>rfl
variable{k:Nat}
def lQ{w:World}(h:cQ P t=some k):(sizeOf t).run P w=.ok k w:=by
 unfold cQ at h;cases hi:P.info? t with
 |none=>rw[hi]at h;cases h
 |some i=> rw[hi]at h;simp only[Option.map_some,Option.some.injEq]at h;simp[sizeOf,typeInfo,hi,h]
def uo(ag:Bool)(k:Nat)(cs:List AV):AV:=if ag then .agg (cs.take k)else cs.getD 0 .any
def Hb{ad:Addr}{vs:Nat->Value}{ag:Bool}(WC:dv P t=some ag)(Vb:cQ P t=some k)(hk:k<=cs.length)(Vs:1<=cs.length)
  (D':∀j,j<cs.length->w.cell? (ad.add j)=some (vs j)) (hr:∀(j:Nat) u,cs[j]?=some u->aw w u (vs j)) :
  ∃v,(loadVar t ad).run P w.toWorld=.ok v w.toWorld/\aw w (uo ag k cs) v:=by
 simp only[loadVar,Sem.run_bind,xH WC,Result.andThen_ok];cases ag with
 |false=>
  simp only[Bool.false_eq_true,if_false,uo];have h0:=D' 0 jB;rw[A7]at h0;refine⟨vs 0,by rw[run_load];simp[h0],?_⟩;have:cs[0]?=some (cs.getD 0 .any):=by simp[List.getElem?_eq_getElem (show 0<cs.length from jB)]
  exact hr 0 _ this
 |true=>
  simp only[if_true,uo];simp only[Sem.run_bind,lQ Vb,Result.andThen_ok,run_loadCells w.toWorld ad k vs (fun j hj=>D' j jB),Sem.run_pure];refine⟨_,rfl,.agg _ _ jF fun i a v ha hv=>?_⟩;have hi:i<k:=by have:=(List.getElem?_eq_some_iff.1 ha).1;simp at this;omega
  rw[List.getElem?_take,if_pos hi]at ha;have Ve:v=vs i:=by
   have:(List.map vs (List.range k)).toArray[i]?=some (vs i):=by simp[hi]
   rw[this]at hv;cases hv;rfl
  subst Ve;exact hr i a ha
def Je{a:AV}{c:Prop}{ag:Bool}(h:aw w a va)(hw:aF w H)(hc:qj H a=some (c,cs))(Yk:c)(WC:dv P t=some ag)(Vb:cQ P t=some k)(hk:k<=cs.length)(Vs:1<=cs.length) :
  ∃v,(Instr.loadAt t va).run P w.toWorld=.ok v w.toWorld/\aw w (uo ag k cs) v:=by
 obtain⟨ad,vs,rfl,D',hr⟩:=Fx h hw hc Yk;obtain⟨v,h1,h2⟩:=Hb WC Vb hk Vs D' hr;exact⟨v,by simpa[Instr.loadAt,Instr.sureAddr]using h1,h2⟩
variable{v:Value}
def aw.gX{a:AV}(h:aw w a v)(h1:cI a.cells=true):bZ w a.cells v.cells.toList:=by
 unfold AV.cells at*;split
 ·rename_i cs;cases h with
  |agg _ vs hl hr=>exact⟨by simpa[Value.cells]using hl,fun i a v ha hv=>hr i a v ha (by simpa[Value.cells]using hv)⟩
 ·rename_i vs;cases h;refine⟨by simp[Value.cells],fun i a v ha hv=>?_⟩;simp only[List.getElem?_map,Option.map_eq_some_iff]at ha;obtain⟨x,hx,rfl⟩:=ha;simp only[Value.cells]at hv;rw[hx]at hv;cases hv;exact .raw _
 ·rename_i hna hnr;have Zl:a.one=true:=by simpa[cI]using h1
  have ho:=h.one Zl;have YC:v.cells=#[v]:=by cases v<;>first|rfl|simp[Value.oneCell']at ho
  rw[YC];refine⟨rfl,fun i a' v' ha hv=>?_⟩;cases i with
  |zero=>simp at ha hv;subst ha hv;exact h
  |succ i=>simp at ha
theorem bZ.cI{cs:List AV}{vs:List Value}(h:bZ w cs vs)(h1:cI cs=true):∀v∈vs,v.oneCell'=true:=by
 intro v hv;obtain⟨i,hi⟩:=List.getElem?_of_mem hv;have I':i<cs.length:=by rw[h.1];exact(List.getElem?_eq_some_iff.1 hi).1
 have:=h.2 i cs[i] v (List.getElem?_eq_getElem I') hi;exact this.one (by simp only[Gd.cI,List.all_eq_true]at h1;exact h1 _ (List.getElem_mem I'))
def kT(cells:List AV)(off:Nat)(new:List AV):List AV:=cells.take off++new++cells.drop (off+new.length)
variable{new:List AV}{off:Nat}
def HJ{cells:List AV}(h:off+new.length<=cells.length):(kT cells off new).length=cells.length:=by simp[kT];omega
def Kd{cells:List AV}{p:Nat}(h:off<=cells.length):(kT cells off new)[p]?=if off<=p/\p<off+new.length then new[p-off]? else cells[p]?:=by
 unfold kT;rcases Nat.lt_or_ge p off with h1|h1
 ·rw[jN,List.append_assoc,List.getElem?_append_left jF,List.getElem?_take,if_pos h1]
 ·rcases Nat.lt_or_ge p (off+new.length)with h2|h2
  ·rw[if_pos ⟨h1,h2⟩,List.append_assoc,List.getElem?_append_right jF,List.getElem?_append_left jF];congr 1;simp;omega
  ·rw[jN,List.getElem?_append_right jF];simp only[List.length_append,List.length_take,List.getElem?_drop];congr 1;omega
variable{i:Nat}
def vS{b t:Nat}{r r':Row}{vs:List Value}(hw:aF w H)(hi:H.get i=some r)(Vh:w.nm i r.fD=some (.at b t r.bB))(hn:bZ w new vs)(h1:Gd.cI new=true)(VJ:off+new.length<=t)
  (Xm:r.Au=true) (Zm:r'.Au=true) (hs:r'.bB=r.bB) (he:r'.elem=r.elem) (hv:r.fD<=r'.fD) (hok:r'.ok) (Vj:r'.cells.length<=t) (Z7:∀(p:Nat) a,r'.cells[p]?=some a->if off<=p/\p<off+new.length then new[p-off]?=some a else r.cells[p]?=some a) :
  ∃w':NW,(storeCells ⟨b,off,none⟩ vs).run P w.toWorld=.ok () w'.toWorld/\aF w' (H.put i r')/\Ext w H w' (H.put i r')/\w'.nm i r'.fD=some (.at b t r.bB):=by
 obtain⟨_,z,hz,Vl⟩:=hw.rows i r hi;rw[Vh]at hz;cases hz;obtain⟨_,cur,hh,WI,hr⟩:=Vl;rw[Row.sV Xm]at WI;obtain⟨Vb,hl⟩:=WI;rw[Row.tI Xm]at hh;have J':=hn.1;have B':=run_storeCells_at P b off r.elem vs 0 cur w.toWorld hh jB (hn.cI h1);rw[Nat.add_zero]at B';generalize XO:(cur.toList.take off++vs++cur.toList.drop (off+vs.length)).toArray=Ww at B';have Z8:Ww.size=t:=by subst XO;simp;omega
 have Xa:(w.toWorld.setRow b Ww).heap[b]?=some (.cells Ww r.elem (0,0)):=setRow_heap w.toWorld b cur Ww r.elem (0,0) hh;have V3:∀c,c≠b->(w.toWorld.setRow b Ww).heap[c]?=w.heap[c]?:=fun c hc=>setRow_other w.toWorld b c Ww hc
 have haz:(w.toWorld.setRow b Ww).heap.size=w.heap.size:=size_setRow w.toWorld b Ww;obtain⟨g1,g2⟩:=KB (W:=w.toWorld.setRow b Ww) hw hi Vh hs hv hok rfl rfl rfl haz V3 Ww (by rw[Row.tI Zm,he];exact Xa) (by rw[Row.sV Zm];exact⟨Z8,Vj⟩) (fun p a v ha hv=>by
  have hp:=Z7 p a ha;have XP:p<t:=by have:=(List.getElem?_eq_some_iff.1 ha).1;omega
  subst XO;simp only[List.getElem?_toArray]at hv;split at hp
  ·rename_i Wb;rw[List.append_assoc,List.getElem?_append_right jF,List.getElem?_append_left jF]at hv;simp only[List.length_take,Array.length_toList]at hv;rw[show p-min off cur.size=p-off from jB]at hv;exact hn.2 _ a v hp hv
  ·rename_i Wb;refine hr p a v hp ?_;rcases Nat.lt_or_ge p off with h1|h1
   ·rw[List.append_assoc,List.getElem?_append_left jF,List.getElem?_take,if_pos h1]at hv;simpa using hv
   ·rw[List.getElem?_append_right jF]at hv;simp only[List.length_append,List.length_take,Array.length_toList,List.getElem?_drop]at hv;rw[show off+vs.length+(p-(min off cur.size+vs.length))=p from jB]at hv;simpa using hv)
 exact⟨_,B',g1,g2,NW.ci _ _ _ _⟩
def zy(r:Row)(k j:Nat)(new:List AV):Row:=match r with
 |.var t cs=>.var t (kT cs j new)
 |.aD e sz css=>.aD e sz (css.set k (kT (css.getD k []) j new))
 |.mp ks vs=>.mp ks vs
def CW(r:Row)(m k j n:Nat):Prop:=match r with
 |.var _ cs=>m=0/\j+n<=cs.length
 |.aD _ _ css=>m=css.length/\k<css.length/\j+n<=(css.getD k []).length
 |.mp _ _=>False
def La{ty:TypeId}{m j n:Nat}{r:Row}{x:AV}(hw:aF w H)(ha:aw w (.pt i m k j) va)(hi:H.get i=some r)(hx:aw w x v)(h1:Gd.cI x.cells=true)(Vb:cQ P ty=some n)(hn:x.cells.length=n)(O':CW r m k j n) :
  ∃w':NW,(Instr.storeAt ty va v).run P w.toWorld=.ok () w'.toWorld/\aF w' (H.put i (zy r k j x.cells))/\Ext w H w' (H.put i (zy r k j x.cells)):=by
 have hc:=hx.gX h1;have haA:v.cells.size=n:=by have:=hc.1;simp at this;omega
 have run:∀{W:World} (b off:Nat),(storeCells ⟨b,off,none⟩ v.cells.toList).run P w.toWorld=.ok () W->(Instr.storeAt ty (.pointer (some ⟨b,off,none⟩)) v).run P w.toWorld=.ok () W:=fun b off B'=>by simp only[Instr.storeAt,Instr.sureAddr,pure_bind,storeVar,Sem.run_bind,lQ Vb,Result.andThen_ok,haA,ne_eq,not_true_eq_false,if_false];simpa using B'
 obtain⟨hok,z,hz,Vl⟩:=hw.rows i r hi;cases ha with
 |pt _ _ _ _ b t s Vh=>
 cases r with
 |var ty' cs=>
  obtain⟨rfl,VJ⟩:=O';have hz:w.nm i 0=some z:=hz;rw[Vh]at hz;cases hz;obtain⟨rfl,cur,hh,⟨Z8,hl⟩,hr⟩:=Vl;have hl:cs.length<=t:=hl;have Wp:(Row.var ty' cs).bB=0:=rfl;have Xn:=HJ (cells:=cs) (new:=x.cells) (off:=j) jB;obtain⟨w',B',g1,g2,_⟩:=vS (P:=P) (off:=j) (r':=.var ty' (kT cs j x.cells)) hw hi Vh hc h1 jB rfl rfl rfl rfl jl trivial (by show(kT cs j x.cells).length<=t;omega) (fun p a hp=>by
   have hp:(kT cs j x.cells)[p]?=some a:=hp;rw[Kd jB]at hp;split at hp
   ·rename_i h;rw[if_pos h];exact hp
   ·rename_i h;rw[if_neg h];exact hp)
  refine⟨w',run _ _ ?_,g1,g2⟩;rw[Wp,Nat.mul_zero,Nat.zero_add];exact B'
 |aD e sz css=>
  obtain⟨rfl,hk,VJ⟩:=O';have hz:w.nm i css.length=some z:=hz;rw[Vh]at hz;cases hz;obtain⟨hs_,cur,hh,⟨Z8,hl⟩,hr⟩:=Vl;have hs_:sz=s:=hs_.symm;subst hs_;have Wp:(Row.aD e sz css).bB=sz:=rfl;have J':=vu hok.2 hk;have Wm:(Row.aD e sz css).cells.length=css.length*sz:=ij hok.2;have I':j+n<=sz:=jB;have hmul:=Nat.mul_le_mul_right sz (show k+1<=css.length from hk);rw[Nat.add_mul,Nat.one_mul]at hmul;have Xn:=HJ (cells:=css.getD k []) (new:=x.cells) (off:=j) jB;have Z9:∀cs∈css.set k (kT (css.getD k []) j x.cells),cs.length=sz:=fun cs h=>by
   rcases List.mem_or_eq_of_mem_set h with h|h
   ·exact hok.2 _ h
   ·rw[h,Xn,J']
  have hfl':(css.set k (kT (css.getD k []) j x.cells)).flatten.length=css.length*sz:=by rw[ij Z9,List.length_set]
  obtain⟨w',B',g1,g2,_⟩:=vS (P:=P) (off:=k*sz+j) (r':=.aD e sz (css.set k (kT (css.getD k []) j x.cells))) hw hi Vh hc h1 jB rfl rfl rfl rfl (by show css.length<=(css.set _ _).length;simp) ⟨hok.1,Z9⟩ (by show(List.flatten _).length<=t;omega) (fun p a hp=>by
   have hp:(css.set k (kT (css.getD k []) j x.cells)).flatten[p]?=some a:=hp;have XP:p<css.length*sz:=by have:=(List.getElem?_eq_some_iff.1 hp).1;omega
   obtain⟨q,l,hq,Wv,rfl⟩:=vn XP;rw[qC Z9 (by simpa using hq) Wv]at hp;show if k*sz+j<=q*sz+l/\q*sz+l<k*sz+j+x.cells.length then _ else css.flatten[q*sz+l]?=some a
   rw[qC hok.2 hq Wv];by_cases e':q=k
   ·subst e';have e1:(css.set q (kT (css.getD q []) j x.cells)).getD q []=kT (css.getD q []) j x.cells:=by simp[hk]
    rw[e1,Kd jB]at hp;split at hp
    ·rename_i h;rw[jP,show q*sz+l-(q*sz+j)=l-j from jB];exact hp
    ·rename_i h;rw[jN];exact hp
   ·have e1:(css.set k (kT (css.getD k []) j x.cells)).getD q []=css.getD q []:=by simp[List.getElem?_set,Ne.symm e']
    rw[e1]at hp;rw[if_neg]
    ·exact hp
    ·rintro⟨h1,h2⟩;apply e';rcases Nat.lt_trichotomy q k with h|h|h
     ·have:=Nat.mul_le_mul_right sz (show q+1<=k from h);rw[Nat.add_mul]at this;omega
     ·exact h
     ·have:=Nat.mul_le_mul_right sz (show k+1<=q from h);rw[Nat.add_mul]at this;omega)
  exact⟨w',run _ _ B',g1,g2⟩
 |mp ks vs=>exact O'.elim
def QF{x:AV}(hw:aF w H)(hi:H.get i=none)(hx:aw w x v)(h1:Gd.cI x.cells=true) :
  ∃(u:Value) (w':NW),(Instr.box t v).run P w.toWorld=.ok u w'.toWorld/\aw w' (.pt i 0 0 0) u/\aF w' (H.put i (.var t x.cells))/\Ext w H w' (H.put i (.var t x.cells)):=by
 have hc:=hx.gX h1;have J':x.cells.length=v.cells.size:=by have:=hc.1;simpa using this
 obtain⟨g1,g2⟩:=vQ (row:=.var t x.cells) hw (hw.none hi _) (fun r' hr=>by rw[hi]at hr;cases hr) trivial v.cells ⟨rfl,by show x.cells.length<=_;omega⟩ (fun k a u ha hu=>hc.2 k a u ha (by simpa using hu));refine⟨.pointer (some ⟨w.heap.size,0,none⟩),_,by simp[Instr.box,newVar,newRow];rfl,?_,g1,g2⟩;have:=aw.pt (w:=((w.to (w.alloc ((Row.var t x.cells).obj v.cells))).fZ w.heap.size).name i (Row.var t x.cells).fD (.at w.heap.size v.cells.size (Row.var t x.cells).bB)) i 0 0 0 w.heap.size v.cells.size 0 (NW.ci _ _ _ _);simpa using this
variable{zs:List Value}
def yW{w:World}(h:dS P t=some zs):∃z:Value,(zeroValue t).run P w=.ok z w/\z.cells.toList=zs:=by
 unfold dS at h;cases hi:P.info? t with
 |none=>rw[hi]at h;cases h
 |some i=> rw[hi]at h;simp only[Option.bind_some,Option.map_eq_some_iff]at h;obtain⟨z,hz,rfl⟩:=h;exact⟨z,by simp[zeroValue,typeInfo,hi,hz],rfl⟩
def LO(hw:aF w H)(hi:H.get i=none)(hz:dS P t=some zs) :
  ∃(u:Value) (w':NW),(Instr.alloc t true (.tuple #[])).run P w.toWorld=.ok u w'.toWorld/\aw w' (.pt i 0 0 0) u/\aF w' (H.put i (.var t (zs.map .raw)))/\Ext w H w' (H.put i (.var t (zs.map .raw))):=by
 obtain⟨z,B',rfl⟩:=yW (w:=w.toWorld) hz;obtain⟨g1,g2⟩:=vQ (row:=.var t (z.cells.toList.map .raw)) hw (hw.none hi _) (fun r' hr=>by rw[hi]at hr;cases hr) trivial z.cells ⟨rfl,by show(z.cells.toList.map AV.raw).length<=_;simp⟩ (fun k a u ha hu=>by have ha:(z.cells.toList.map AV.raw)[k]?=some a:=ha;simp only[List.getElem?_map,Array.getElem?_toList,hu,Option.map_some,Option.some.injEq]at ha;subst ha;exact .raw _)
 refine⟨.pointer (some ⟨w.heap.size,0,none⟩),_,by simp[Instr.alloc,B',newVar,newRow];rfl,?_,g1,g2⟩;have:=aw.pt (w:=((w.to (w.alloc ((Row.var t (z.cells.toList.map .raw)).obj z.cells))).fZ w.heap.size).name i (Row.var t (z.cells.toList.map .raw)).fD (.at w.heap.size z.cells.size (Row.var t (z.cells.toList.map .raw)).bB)) i 0 0 0 w.heap.size z.cells.size 0 (NW.ci _ _ _ _);simpa using this
end
abbrev PA:=Prop×AV
def iq:PA:=(False,.any)
def kG(P:Program)(w:NW)(s:Sem Value)(q:PA):Prop:=q.1->∃v,s.run P w.toWorld=.ok v w.toWorld/\aw w q.2 v
def JL{P:Program}{s:Sem Value}:kG P w s iq:=fun h=>h.elim
def jZ:AV->Bool×AV
 |.gd p v=>(p,v)
 |v=>(true,v)
def yf(c x y:Bool):Bool:=if c then x else y
def Iy(c a b:AV):PA:=match c with
 |.raw (.bool true)=>((jZ a).1=true,(jZ a).2)
 |.raw (.bool false)=>((jZ b).1=true,(jZ b).2)
 |_=>iq
def ow(c a b:AV):PA:=match c,jZ a,jZ b with
 |.raw (.bool c),(pa,.raw (.bool x)),(pb,.raw (.bool y))=>((c=true->pa=true)/\(c=false->pb=true),.raw (.bool (yf c x y)))
 |c,_,_=>Iy c a b
def oS(P:Program)(t:TypeId)(m:String):Option FuncId:=match P.info? t,P.underlying t with
 |some ti,some (.pointer _)=>match ti.methods.find? (·.name == m)with
  |some r=>if r.path.isEmpty then match r.func with
   |some (f,true)=>some f
   |_=>none
   else none
  |none=>none
 |_,_=>none
def qa(P:Program):AV->PA
 |.mv m (.iS t x)=>((oS P t m).isSome=true,.mv m (.iS t x))
 |.ip cs=>(True,.ip cs)
 |.pt i m k j=>(True,.pt i m k j)
 |.raw (.pointer (some a))=>(True,.raw (.pointer (some a)))
 |.raw (.func (.func f) x y)=>(True,.raw (.func (.func f) x y))
 |.raw (.iface t v)=>(True,.raw (.iface t v))
 |.raw (.slice a n c)=>(True,.raw (.slice a n c))
 |.raw (.map (some r))=>(True,.raw (.map (some r)))
 |_=>iq
def tL(op:BinOp)(k:IntKind)(x y:Int):Int:=
 let a:=BitVec.ofInt k.bits x
 let b:=BitVec.ofInt k.bits y
 match op with
 |.and=>k.wrap (a &&& b).toNat
 |.or=>k.wrap (a ||| b).toNat
 |.xor=>k.wrap (a ^^^ b).toNat
 |_=>k.wrap (a &&& ~~~b).toNat
def yC(op:BinOp)(k:IntKind)(a:Int)(k':IntKind)(b:Int):PA:=match op with
 |.add=>(k=k',.raw (.int k (k.wrap (a+b))))
 |.sub=>(k=k',.raw (.int k (k.wrap (a-b))))
 |.mul=>(k=k',.raw (.int k (k.wrap (a*b))))
 |.quo=>(k=k'/\b≠0,.raw (.int k (k.wrap (a.tdiv b))))
 |.rem=>(k=k'/\b≠0,.raw (.int k (a.tmod b)))
 |.and=>(k=k',.raw (.int k (tL .and k a b)))
 |.or=>(k=k',.raw (.int k (tL .or k a b)))
 |.xor=>(k=k',.raw (.int k (tL .xor k a b)))
 |.andNot=>(k=k',.raw (.int k (tL .andNot k a b)))
 |.shl=>(0<=b,.raw (.int k (k.wrap (a*2 ^ (min b.toNat k.bits)))))
 |.shr=>(0<=b,.raw (.int k (a.fdiv (2 ^ (min b.toNat k.bits)))))
 |.eql=>(k=k',.raw (.bool (decide (a=b))))
 |.neq=>(k=k',.raw (.bool (!decide (a=b))))
 |.lss=>(k=k',.raw (.bool (decide (a<b))))
 |.leq=>(k=k',.raw (.bool (decide (a<=b))))
 |.gtr=>(k=k',.raw (.bool (decide (b<a))))
 |.geq=>(k=k',.raw (.bool (decide (b<=a))))
def Ah(op:BinOp)(a b:ByteArray):PA:=match op with
 |.add=>(a.size+b.size<=9223372036854775807,.raw (.string (a++b)))
 |.eql=>(True,.raw (.bool (decide (a=b))))
 |.neq=>(True,.raw (.bool (!decide (a=b))))
 |.lss=>(True,.raw (.bool (Op.bytesLess a.toList b.toList)))
 |.gtr=>(True,.raw (.bool (!(Op.bytesLess a.toList b.toList || decide (a=b)))))
 |.leq=>(True,.raw (.bool (Op.bytesLess a.toList b.toList || decide (a=b))))
 |.geq=>(True,.raw (.bool (!(Op.bytesLess a.toList b.toList))))
 |_=>iq
def jQ:List AV->List AV->Bool
 |[],[]=>true
 |.raw (.int _ a)::l,.raw (.int _ b)::m=>decide (a=b) && jQ l m
 |.raw (.string a)::l,.raw (.string b)::m=>decide (a=b) && jQ l m
 |.raw (.bool a)::l,.raw (.bool b)::m=>(a == b) && jQ l m
 |_,_=>false
def ta(P:Program)(t:TypeId):Bool:=match P.underlying t with
 |some (.pointer _)=>true
 |_=>false
def AA(P:Program)(t:TypeId):Bool:=match P.underlying t with
 |some (.interface _)=>true
 |_=>false
def xF(P:Program)(t:TypeId):Bool:=match P.underlying t with
 |some .bool=>true
 |_=>false
def ru(P:Program)(t:TypeId):Bool:=match P.underlying t with
 |some .string=>true
 |_=>false
def gY(P:Program)(t:TypeId):Bool:=match P.underlying t with
 |some (.slice _)=>true
 |_=>false
inductive LK where
 |int (k:IntKind)|str|bool
 deriving DecidableEq
def kF:AV->Option LK
 |.raw (.int k _)=>some (.int k)
 |.raw (.string _)=>some .str
 |.raw (.bool _)=>some .bool
 |_=>none
def xO(P:Program)(leafK:TypeId->Option (List LK)):Nat->List Field->Option (List LK)
 |_,[]=>some []
 | off, f :: fs => if f.name ≠ "_" ∧ f.offset = off then match leafK f.type, cQ P f.type with
   |some ks,some k=>if ks.length=k then(xO P leafK (off+k) fs).map (ks++·)else none
   |_,_=>none
  else none
def tg(P:Program):Nat->TypeId->Option (List LK)
 |0,_=>none
 |d+1,t=>match P.underlying t with
  |some (.int k)=>some [.int k]
  |some .string=>some [.str]
  |some .bool=>some [.bool]
  |some (.struct fs)=>if P.stoodInHeld t then none else xO P (tg P d) 0 fs.toList
  |_=>none
def zn(P:Program)(t:TypeId):Option (List LK):=if P.eqGuardType P.depth t then none else tg P 8 t
def xr(P:Program)(ne:Bool)(t:TypeId)(x y:AV):PA:=match x,y with
 |.raw (.bool a),.raw (.bool b)=>(xF P t=true,.raw (.bool (ne ^^ (a == b))))
 |.raw (.pointer none),.raw (.pointer b)=>(ta P t=true,.raw (.bool (ne ^^ b.isNone)))
 |.raw (.pointer (some _)),.raw (.pointer none)=>(ta P t=true,.raw (.bool ne))
 |.ip _,.raw (.pointer none)=>(ta P t=true,.raw (.bool ne))
 |.pt ..,.raw (.pointer none)=>(ta P t=true,.raw (.bool ne))
 |.raw (.slice none _ _),.raw (.slice b _ _)=>(gY P t=true,.raw (.bool (ne ^^ b.isNone)))
 |.raw (.slice (some _) _ _),.raw (.slice none _ _)=>(gY P t=true,.raw (.bool ne))
 |.sl _ _ css _,.raw (.slice none _ _)=>(gY P t=true/\css≠[],.raw (.bool ne))
 |.agg cs,.agg ds=>match zn P t with
  |some ks=>(dv P t=some true/\cs.map kF=ks.map some/\ds.map kF=ks.map some,.raw (.bool (ne ^^ jQ cs ds)))
  |none=>iq
 |_,_=>iq
def fp(P:Program)(op:BinOp)(t:TypeId)(x y:AV):PA:=match x,y with
 |.raw (.int k a),.raw (.int k' b)=>yC op k a k' b
 |.raw (.string a),.raw (.string b)=>Ah op a b
 |x,y=>match op with
  |.eql=>xr P false t x y
  |.neq=>xr P true t x y
  |_=>iq
def tz(op:UnOp)(x:AV):PA:=match op,x with
 |.not,.raw (.bool b)=>(True,.raw (.bool (!b)))
 |.neg,.raw (.int k n)=>(True,.raw (.int k (k.wrap (0-n))))
 |_,_=>iq
def oq(P:Program)(H:Hp)(t:TypeId)(a:AV):PA:=match qj H a,dv P t,cQ P t with
 |some (c,cs),some true,some k=>(c/\k<=cs.length/\1<=cs.length,.agg (cs.take k))
 |some (c,cs),some false,some k=>(c/\k<=cs.length/\1<=cs.length,cs.getD 0 .any)
 |_,_,_=>iq
def qz(P:Program)(t:TypeId)(a:AV)(f:Nat):PA:=match a,bX P t f with
 |.ip cs,some off=>(True,.ip (cs.drop off))
 |.pt i m k j,some off=>(True,.pt i m k (j+off))
 |_,_=>iq
def vm(P:Program)(t:TypeId)(f:Nat):Option (TypeId×Nat):=match P.underlying t with
 |some (.struct fs)=>(fs[f]?).map fun fd=>(fd.type,fd.offset)
 |_=>none
def Aj(P:Program)(t:TypeId)(cs:List AV)(off:Nat):PA:=match dv P t,cQ P t with
 |some true,some k=>(off+k<=cs.length,.agg ((cs.drop off).take k))
 |some false,some _=>(off<cs.length,cs.getD off .any)
 |_,_=>iq
def wC(P:Program)(t:TypeId)(a:AV)(f:Nat):PA:=match a,vm P t f with
 |.agg cs,some (ft,off)=>Aj P ft cs off
 |_,_=>iq
def iy(P:Program)(t:TypeId):Option Nat:=(iE P t).bind (cQ P)
def zz(P:Program)(t:TypeId):Option (Nat×Nat):=match P.underlying t with
 |some (.array len e)=>(cQ P e).map fun s=>(len,s)
 |_=>none
def yR(o:Option (Nat×Nat))(i:Int)(f:Nat->AV):PA:=match o with
 |some (len,s)=>(0<=i/\i<len,f (i.toNat*s))
 |none=>iq
def sT(P:Program)(t:TypeId)(a i:AV):PA:=match a,i with
 |.sl _ sz css d,.raw (.int _ i)=>(iy P t=some sz/\0<=i/\i<css.length,.ip (css.getD i.toNat d))
 |.rs d m sz n,.raw (.int _ i)=>(iy P t=some sz/\0<=i/\i<n,.pt d m i.toNat 0)
 |.rc d m sz n,.raw (.int _ i)=>(iy P t=some sz/\0<=i/\i<n,.pt d m i.toNat 0)
 |.rv d m sz o n,.raw (.int _ i)=>(iy P t=some sz/\0<=i/\i<n,.pt d m (o+i.toNat) 0)
 |.pt d m k j,.raw (.int _ i)=>yR (zz P t) i fun o=>.pt d m k (j+o)
 |.ip cs,.raw (.int _ i)=>yR (zz P t) i fun o=>.ip (cs.drop o)
 |_,_=>iq
def dY(s:ByteArray)(i:Int):Int:=((s.data[i.toNat]?.getD 0).toNat:Int)
def tJ(P:Program)(t:TypeId)(a i:AV):PA:=match a,i with
 |.raw (.string s),.raw (.int _ i)=>(ru P t=true/\0<=i/\i<s.size,.raw (.int .u8 (dY s i)))
 |_,_=>iq
def vG(a:AV)(i:Nat):PA:=match a with
 |.aY vs=>(i<vs.length,vs.getD i .any)
 |_=>iq
def q9:Option AV->Option (Option Int)
 |none=>some none
 |some (.raw (.int _ i))=>some (some i)
 |_=>none
def tK(P:Program)(t:TypeId)(a:AV)(lo hi mx:Option AV):PA:=match a,q9 lo,q9 hi,q9 mx with
 |.raw (.string s),some lo,some hi,some none=>(ru P t=true/\0<=lo.getD 0/\lo.getD 0<=hi.getD s.size/\hi.getD s.size<=s.size,.raw (.string (s.extract (lo.getD 0).toNat (hi.getD s.size).toNat)))
 |.sl _ sz css d,some lo,some hi,some none=> (iy P t=some sz/\0<=lo.getD 0/\lo.getD 0<=hi.getD css.length/\hi.getD css.length<=css.length,.sl false sz ((css.drop (lo.getD 0).toNat).take ((hi.getD css.length).toNat-(lo.getD 0).toNat)) d)
 |.rs d m sz n,some none,some hi,some none=>(iy P t=some sz/\0<=hi.getD n/\hi.getD n<=n,.rs d m sz (hi.getD n).toNat)
 |.rs d m sz n,some (some lo),some hi,some none=>(iy P t=some sz/\0<=lo/\lo<=hi.getD n/\hi.getD n<=n,.rv d m sz lo.toNat ((hi.getD n).toNat-lo.toNat))
 |.rc d m sz n,some none,some hi,some none=>(iy P t=some sz/\0<=hi.getD n/\hi.getD n<=m,.rc d m sz (hi.getD n).toNat)
 |.rc d m sz n,some (some lo),some hi,some none=>(iy P t=some sz/\0<=lo/\lo<=hi.getD n/\hi.getD n<=m,.rv d m sz lo.toNat ((hi.getD n).toNat-lo.toNat))
 |.rc d m sz n,some lo,some (some hi),some (some mx)=>(iy P t=some sz/\0<=lo.getD 0/\lo.getD 0<=hi/\hi<=mx/\mx<=m,.rv d m sz (lo.getD 0).toNat (hi.toNat-(lo.getD 0).toNat))
 |.rv d m sz o n,some lo,some hi,some none=>(iy P t=some sz/\0<=lo.getD 0/\lo.getD 0<=hi.getD n/\hi.getD n<=n,.rv d m sz (o+(lo.getD 0).toNat) ((hi.getD n).toNat-(lo.getD 0).toNat))
 |.rs d m sz n,some lo,some (some hi),some (some mx)=>(iy P t=some sz/\0<=lo.getD 0/\lo.getD 0<=hi/\hi<=mx/\mx<=n,.rv d m sz (lo.getD 0).toNat (hi.toNat-(lo.getD 0).toNat))
 |.raw (.slice none 0 0),some lo,some hi,some none=>(gY P t=true/\(iy P t).isSome=true/\lo.getD 0=0/\hi.getD 0=0,.raw (.slice none 0 0))
 |_,_,_,_=>iq
def Jx:List AV->Option (List Value)
 |[]=>some []
 |.raw v::l=>(Jx l).map (v::·)
 |_=>none
def vk(fn:Fn)(first captured:List AV):PA:=match fn,first with
 |.func f,[]=>(True,.eT f captured)
 |.func f,x::l=>(captured=[],.bd f (x::l))
 |.method m,[x]=>(captured=[],.mv m x)
 |_,_=>iq
def vA(P:Program)(t:TypeId)(x:AV):PA:=match x,AA P t,P.underlying t with
 |.raw v,false,some _=>(True,.raw (.iface t v))
 |a,false,some _=>(True,.iS t a)
 |_,_,_=>iq
def CN(P:Program)(t:TypeId):Option IntKind:=match P.underlying t with
 |some (.int k)=>some k
 |_=>none
def wK(P:Program)(s d:TypeId)(x:AV):PA:=match x,CN P d with
 |.raw (.int _ n),some k=>((P.underlying s).isSome=true,.raw (.int k (k.wrap n)))
 |.raw (.string s'),none=>((P.underlying s).isSome=true/\ru P d=true,.raw (.string s'))
 |_,_=>iq
def yV(P:Program)(t:TypeId):Bool:=match P.underlying t with
 |some (.map _ _)=>true
 |_=>false
def u6(P:Program)(H:Hp)(t:TypeId)(x:AV):PA:=match x with
 |.mr i=>if jh.contains t=true then(match H.get i with
  |some (.mp ks _)=>(yV P t=true,.raw (.int .i64 ks.length))
  |_=>iq)else iq
 |.sl _ _ css _=>(gY P t=true,.raw (.int .i64 css.length))
 |.rs _ _ _ n=>(gY P t=true,.raw (.int .i64 n))
 |.rc _ _ _ n=>(gY P t=true,.raw (.int .i64 n))
 |.rv _ _ _ _ n=>(gY P t=true,.raw (.int .i64 n))
 |.raw (.slice _ n _)=>(gY P t=true,.raw (.int .i64 n))
 |.raw (.string s)=>(ru P t=true,.raw (.int .i64 s.size))
 |_=>iq
def Ae(P:Program)(t:TypeId)(x:AV):PA:=match x with
 |.sl true _ css _=>(gY P t=true,.raw (.int .i64 css.length))
 |.rc _ m _ _=>(gY P t=true,.raw (.int .i64 m))
 |.raw (.slice _ _ n)=>(gY P t=true,.raw (.int .i64 n))
 |_=>iq
def wV(mx:Bool)(args:List AV):PA:=match args with
 |[.raw (.int k a),.raw (.int k' b)]=>(k=k',.raw (.int k (if mx then(if b>a then b else a)else(if b<a then b else a))))
 |_=>iq
def lP(P:Program)(H:Hp)(b:Builtin)(ts:List TypeId)(args:List AV):PA:=match b,ts,args with
 |.len,t::_,x::_=>u6 P H t x
 |.cap,t::_,x::_=>Ae P t x
 |.max,_,args=>wV true args
 |.min,_,args=>wV false args
 |_,_,_=>iq
def iP(P:Program)(t:TypeId):Option (List (Nat×Nat)):=match P.underlying t with
 |some (.struct fs)=>fs.toList.mapM fun f=>(cQ P f.type).map fun k=>(f.offset,k)
 |_=>none
def rQ(pl:Nat->Option (Nat×Nat))(cells:List AV):List (Nat×AV)->Option (List AV)
 |[]=>some cells
 |(i,a)::rest=>match pl i with
  |some (off,k)=>if a.cells.length=k/\off+k<=cells.length then rQ pl (kT cells off a.cells) rest else none
  |none=>none
def wJ(P:Program)(t:TypeId)(parts:List (Nat×AV)):PA:=match dS P t,iP P t with
 |some zs,some pl=>match rQ (fun i=>pl[i]?) (zs.map .raw) parts with
  |some cs=>(cI ((parts.map fun p=>p.2.cells).flatten)=true,.agg cs)
  |none=>iq
 |_,_=>iq
def vq(P:Program)(ev:Operand->AV)(H:Hp):Op->PA
 |.move x=>(True,ev x)
 |.assign x=>(True,ev x)
 |.pick c a b=>ow (ev c) (ev a) (ev b)
 |.nilCheck x=>qa P (ev x)
 |.binOp op t x y _=>fp P op t (ev x) (ev y)
 |.unOp op _ x=>tz op (ev x)
 |.load t a=>oq P H t (ev a)
 |.fieldAddr t a f=>qz P t (ev a) f
 |.field t a f=>wC P t (ev a) f
 |.indexAddr t a i=>sT P t (ev a) (ev i)
 |.index t a i=>tJ P t (ev a) (ev i)
 |.extract a i=>vG (ev a) i
 |.slice t a lo hi mx=>tK P t (ev a) (lo.map ev) (hi.map ev) (mx.map ev)
 |.makeFunc fn first captured=>vk fn (first.toList.map ev) (captured.toList.map ev)
 |.makeInterface t x=>vA P t (ev x)
 |.convert s d x=>wK P s d (ev x)
 |.build t parts=>wJ P t (parts.toList.map fun p=>(p.1,ev p.2))
 |.call { callee:=.builtin b,args,argTypes }=>lP P H b argTypes.toList (args.toList.map ev)
 |_=>iq
section
variable {P:Program}{w:NW}{H:Hp}
def cZ{v u:Value}(h:aw w (.raw v) u):u=v:=by cases h;rfl
def Cn(a b:Int):(a == b)=decide (a=b):=by rw[Bool.eq_iff_iff];simp
def xK(a b:ByteArray):(a.toList == b.toList)=decide (a=b):=by
 rw[Bool.eq_iff_iff,beq_iff_eq,decide_eq_true_iff];constructor
 ·intro h;exact ByteArray.ext (by simpa[ByteArray.toList_eq]using h)
 ·rintro rfl;rfl
def y6{a:AV}{lk:LK}(h:kF a=some lk):match lk with
  |.int k=>∃n,a=.raw (.int k n)
  |.str=>∃s,a=.raw (.string s)
  |.bool=>∃b,a=.raw (.bool b):=by
 unfold kF at h;split at h<;>cases h<;>exact⟨_,rfl⟩
theorem Jt:∀{a c b d:List AV},a.map kF=c.map kF->(∀x∈a,(kF x).isSome=true)->jQ (a++b) (c++d)=(jQ a c && jQ b d)
 |[],[],b,d,_,_=>by simp[jQ]
 |[],_::_,_,_,h,_=>by simp at h
 |_::_,[],_,_,h,_=>by simp at h
 |x::a,y::c,b,d,h,hs=>by simp only[List.map_cons,List.cons.injEq]at h;have ih:=Jt (b:=b) (d:=d) h.2 (fun z hz=>hs z (by simp[hz]));obtain⟨lk,hx⟩:=Option.isSome_iff_exists.1 (hs x jE);have hy:=h.1.symm.trans hx;have h1:=y6 hx;have h2:=y6 hy;cases lk<;>(obtain⟨u,rfl⟩:=h1;obtain⟨v,rfl⟩:=h2;simp only[List.cons_append,jQ,ih,Bool.and_assoc])
variable{cs:List AV}
def CY{ks:List LK}(h:cs.map kF=ks.map some):(∀x∈cs,(kF x).isSome=true)/\cs.length=ks.length:=by refine⟨fun x hx=>?_,by have:=congrArg List.length h;simpa using this⟩;have:kF x∈cs.map kF:=List.mem_map.2 ⟨x,hx,rfl⟩;rw[h]at this;obtain⟨k,_,hk⟩:=List.mem_map.1 this;rw[<-hk];rfl
variable{t:TypeId}
def OG{lk:LK}{a b:AV}{va vb:Value}(ht:P.underlying t=some (match lk with|.int k=>.int k|.str=>.string|.bool=>.bool))(ha:aw w a va)(hb:aw w b vb)(hka:kF a=some lk)(hkb:kF b=some lk)(d:Nat) :
  (Op.equalIn (d+1) t va vb).run P w.toWorld=.ok (jQ [a] [b]) w.toWorld:=by
 have h1:=y6 hka;have h2:=y6 hkb;cases lk with
 |int k=>
  obtain⟨m,rfl⟩:=h1;obtain⟨n,rfl⟩:=h2;have:=cZ ha;have:=cZ hb;subst_vars
  rw[run_equalIn_int w d t k k _ _ ht];simp[jQ,Cn]
 |str=>
  obtain⟨m,rfl⟩:=h1;obtain⟨n,rfl⟩:=h2;have:=cZ ha;have:=cZ hb;subst_vars
  rw[run_equalIn_string w d t _ _ ht,xK];simp[jQ]
 |bool=>
  obtain⟨m,rfl⟩:=h1;obtain⟨n,rfl⟩:=h2;have:=cZ ha;have:=cZ hb;subst_vars
  rw[run_equalIn_bool w d t _ _ ht];simp[jQ]
def CS(P:Program)(t:TypeId)(v:Value)(vs:List Value):Prop:=(dv P t=some true/\v=.agg vs.toArray)\/(dv P t=some false/\vs=[v])
def Ex{xs:Array Value}{off k:Nat}(WC:(dv P t).isSome=true)(Vb:cQ P t=some k)(h1:dv P t=some false->k=1)(VJ:off+k<=xs.size) :
  ∃v,(part t xs off).run P w.toWorld=.ok v w.toWorld/\CS P t v ((xs.toList.drop off).take k):=by
 obtain⟨ag,WC⟩:=Option.isSome_iff_exists.1 WC;cases ag with
 |true=>
  refine⟨.agg (xs.extract off (off+k)),by simp[part,xH WC,lQ Vb],.inl ⟨WC,?_⟩⟩;congr 1
  apply Array.ext';simp[Array.toList_extract,List.extract_eq_take_drop]
 |false=> obtain rfl:=h1 WC;have h2:xs[off]?=some (xs[off]' jB):=Array.getElem?_eq_getElem jB;refine⟨xs[off]' jB,by simp[part,xH WC,h2],.inr ⟨WC,?_⟩⟩;rw[List.drop_eq_getElem_cons jF];simp
variable{vs:List Value}
def Gw(h:bZ w cs vs)(n:Nat):bZ w (cs.drop n) (vs.drop n):=⟨by simp[h.1],fun i a v ha hv=>h.2 (n+i) a v (by simpa using ha) (by simpa using hv)⟩
def FN(h:bZ w cs vs)(n:Nat):bZ w (cs.take n) (vs.take n):=⟨by simp[h.1],fun i a v ha hv=>by
 rw[List.getElem?_take]at ha hv;split at ha
 ·rename_i hi;rw[if_pos hi]at hv;exact h.2 i a v ha hv
 ·cases ha⟩
def RD:∀(n:Nat),(∀(t:TypeId) (ks:List LK),tg P n t=some ks->∀(d:Nat) (v v':Value) (cs ds:List AV) (vs us:List Value),CS P t v vs->CS P t v' us->bZ w cs vs->bZ w ds us->cs.map kF=ks.map some->ds.map kF=ks.map some->
   (Op.equalIn (d+n) t v v').run P w.toWorld=.ok (jQ cs ds) w.toWorld):=by
 intro n;induction n with
 |zero=>intro t ks h;simp[tg]at h
 |succ n ih=>
  intro t ks hk d v v' cs ds vs us hv Ve VW Yl h1 h2;have leaf:∀lk:LK,P.underlying t=some (match lk with|.int k=>.int k|.str=>.string|.bool=>.bool)->ks=[lk]->dv P t=some false->(Op.equalIn (d+(n+1)) t v v').run P w.toWorld=.ok (jQ cs ds) w.toWorld:=by
   rintro lk ht rfl WC;have e1:vs=[v]:=by
    rcases hv with⟨h,_⟩|⟨_,h⟩
    ·rw[WC]at h;cases h
    ·exact h
   have e2:us=[v']:=by
    rcases Ve with⟨h,_⟩|⟨_,h⟩
    ·rw[WC]at h;cases h
    ·exact h
   subst e1 e2;match cs,ds,h1,h2 with
   |[a],[b],h1,h2=> exact OG ht (VW.2 0 _ _ rfl rfl) (Yl.2 0 _ _ rfl rfl) (by simpa using h1) (by simpa using h2) (d+n)
  unfold tg at hk;split at hk
  ·rename_i k hu;exact leaf (.int k) hu (by simpa using hk.symm) (by simp[dv,hu])
  ·rename_i hu;exact leaf .str hu (by simpa using hk.symm) (by simp[dv,hu])
  ·rename_i hu;exact leaf .bool hu (by simpa using hk.symm) (by simp[dv,hu])
  ·rename_i fs hu;split at hk
   ·cases hk
   ·rename_i O';have WC:dv P t=some true:=by simp[dv,hu]
    have e1:v=.agg vs.toArray:=by
     rcases hv with⟨_,h⟩|⟨h,_⟩
     ·exact h
     ·rw[WC]at h;cases h
    have e2:v'=.agg us.toArray:=by
     rcases Ve with⟨_,h⟩|⟨h,_⟩
     ·exact h
     ·rw[WC]at h;cases h
    subst e1 e2;have hf:P.fieldsOf t=fs:=by simp[Program.fieldsOf,hu]
    rw[show d+(n+1)=(d+n)+1 from jB,run_equalIn_struct w (d+n) t _ _ (by rw[hf];exact hu) (by simpa using O'),hf];have gen:∀(l:List Field) (off:Nat) (ks:List LK),xO P (tg P n) off l=some ks->off<=cs.length->off<=ds.length->(cs.drop off).map kF=ks.map some->(ds.drop off).map kF=ks.map some->
      (Op.eqFields (d+n) vs.toArray us.toArray l).run P w=.ok (jQ (cs.drop off) (ds.drop off)) w:=by
     intro l;induction l with
     |nil=>
      intro off ks hk _ _ g1 g2;simp only[xO,Option.some.injEq]at hk;subst hk;have c1:cs.drop off=[]:=by simpa using g1
      have c2:ds.drop off=[]:=by simpa using g2
      rw[c1,c2];simp[Op.eqFields,jQ]
     |cons f l ihl=>
      intro off ks hk o1 o2 g1 g2;unfold xO at hk;split at hk
      ·rename_i Vd;obtain⟨Xt,rfl⟩:=Vd;split at hk
       ·rename_i ks1 k e1 e2;split at hk
        ·rename_i Wc;simp only[Option.map_eq_some_iff]at hk;obtain⟨ks2,Va,rfl⟩:=hk;have l1:=(CY g1).2;have l2:=(CY g2).2;have ag:(dv P f.type).isSome=true/\(dv P f.type=some false->k=1):=by
          cases n with
          |zero=>simp[tg]at e1
          |succ n=>
           unfold tg at e1;split at e1
           ·rename_i hu;refine⟨by simp[dv,hu],fun _=>?_⟩;cases e1;exact Wc.symm
           ·rename_i hu;refine⟨by simp[dv,hu],fun _=>?_⟩;cases e1;exact Wc.symm
           ·rename_i hu;refine⟨by simp[dv,hu],fun _=>?_⟩;cases e1;exact Wc.symm
           ·rename_i hu;exact⟨by simp[dv,hu],fun h=>by simp[dv,hu]at h⟩
           ·cases e1
         have Ym:=VW.1;have hul:=Yl.1;simp only[List.length_drop,List.length_append]at l1 l2;obtain⟨x,hx,cx⟩:=Ex (P:=P) (w:=w) (xs:=vs.toArray) (off:=f.offset) ag.1 e2 ag.2 jF;obtain⟨y,hy,cy⟩:=Ex (P:=P) (w:=w) (xs:=us.toArray) (off:=f.offset) ag.1 e2 ag.2 jF;simp only[List.map_append]at g1 g2;have split1:∀{zs:List AV},(zs.drop f.offset).map kF=ks1.map some++ks2.map some->((zs.drop f.offset).take k).map kF=ks1.map some/\(zs.drop (f.offset+k)).map kF=ks2.map some:=by
          intro zs h;have e:k=(ks1.map some).length:=by simp[Wc]
          constructor
          ·rw[List.map_take,h,e,List.take_left'];rfl
          ·rw[<-List.drop_drop,List.map_drop,h,e,List.drop_left'];rfl
         obtain⟨a1,a2⟩:=split1 g1;obtain⟨b1,b2⟩:=split1 g2;have XQ:=ih f.type ks1 e1 d x y _ _ _ _ cx cy (FN (Gw VW f.offset) k) (FN (Gw Yl f.offset) k) a1 b1;have Vk:=ihl (f.offset+k) ks2 Va jB jB a2 b2;have Z':jQ (cs.drop f.offset) (ds.drop f.offset)=(jQ ((cs.drop f.offset).take k) ((ds.drop f.offset).take k) && jQ (cs.drop (f.offset+k)) (ds.drop (f.offset+k))):=by rw[<-Jt (by rw[a1,b1]) (CY a1).1,<-List.drop_drop,<-List.drop_drop,List.take_append_drop,List.take_append_drop]
         simp only[Op.eqFields,ne_eq,Xt,not_false_eq_true,if_true,Sem.run_bind,hx,hy,XQ,Result.andThen_ok];rw[Z'];cases hb:jQ ((cs.drop f.offset).take k) ((ds.drop f.offset).take k)
         ·simp
         ·simp only[Bool.not_true,Bool.false_eq_true,if_false,Bool.true_and];exact Vk
        ·cases hk
       ·cases hk
      ·cases hk
    have:=gen fs.toList 0 ks hk (Nat.zero_le _) (Nat.zero_le _) (by simpa using h1) (by simpa using h2);simpa using this
  ·cases hk
def MU{ne:Bool}{ds:List AV}{va vb:Value}{ks:List LK}{x y:Operand}(hk:zn P t=some ks)(WC:dv P t=some true)(h1:cs.map kF=ks.map some)(h2:ds.map kF=ks.map some)(ha:aw w (.agg cs) va)(hb:aw w (.agg ds) vb) :
  ∃v,(do eqGuard (if ne then .neq else .eql) t x y va vb;binOp (if ne then .neq else .eql) t va vb:Sem Value).run P w.toWorld=.ok v w.toWorld/\aw w (.raw (.bool (ne ^^ jQ cs ds))) v:=by
 unfold zn at hk;split at hk
 ·cases hk
 ·rename_i hg;cases ha with|agg _ vs l1 r1=>
  cases hb with|agg _ us l2 r2=>
  have he:=RD (P:=P) (w:=w) 8 t ks hk 9992 (.agg vs) (.agg us) cs ds vs.toList us.toList (.inl ⟨WC,jE⟩) (.inl ⟨WC,jE⟩) ⟨by simpa using l1,fun i a v ha hv=>r1 i a v ha (by simpa using hv)⟩ ⟨by simpa using l2,fun i a v ha hv=>r2 i a v ha (by simpa using hv)⟩ h1 h2;have XR:∀op,(eqGuard op t x y (.agg vs) (.agg us)).run P w.toWorld=.ok () w.toWorld:=fun op=>run_eqGuard_agg w op t x y vs us (by simpa using hg)
  have X5:(Op.equalIn 10000 t (.agg vs) (.agg us)).run P w.toWorld=.ok (jQ cs ds) w.toWorld:=he;cases ne
  ·simp only[Bool.false_eq_true,if_false,Sem.run_bind,XR,Result.andThen_ok,run_eql_struct,X5];exact⟨_,rfl,by simpa using aw.raw _⟩
  ·simp only[if_true,Sem.run_bind,XR,Result.andThen_ok,run_neq_struct,X5];exact⟨_,rfl,by simpa using aw.raw _⟩
end
section
variable {P:Program}{w:NW}{H:Hp}
variable{a:AV}{v:Value}
def xG(h:aw w a v)(hp:(jZ a).1=true):aw w (jZ a).2 v:=by
 unfold jZ at*;split
 ·cases h with|gd p a v hh hu=>exact hh hp
 ·exact h
variable{va vb:Value}
def IX{c b:AV}{vc:Value}(hc:aw w c vc)(ha:aw w a va)(hb:aw w b vb):kG P w (do pure (if<-asBool vc then va else vb)) (ow c a b):=by
 intro hq;unfold ow at*;split at hq
 ·rename_i cb pa x pb y e1 e2;have:=cZ hc;subst this;cases cb with
  |true=> have h:=xG ha (by rw[e1];exact hq.1 rfl);rw[e1]at h;have:=cZ h;subst this;exact⟨.bool x,by simp[asBool],by simpa[yf]using aw.raw _⟩
  |false=> have h:=xG hb (by rw[e2];exact hq.2 rfl);rw[e2]at h;have:=cZ h;subst this;exact⟨.bool y,by simp[asBool],by simpa[yf]using aw.raw _⟩
 ·unfold Iy at*;split at hq
  ·have:=cZ hc;subst this;exact⟨va,by simp[asBool],xG ha hq⟩
  ·have:=cZ hc;subst this;exact⟨vb,by simp[asBool],xG hb hq⟩
  ·exact hq.elim
def Pd(op:BinOp)(t:TypeId)(k:IntKind)(a:Int)(k':IntKind)(b:Int)(x y:Operand):kG P w (do eqGuard op t x y (.int k a) (.int k' b);binOp op t (.int k a) (.int k' b)) (yC op k a k' b):=by
 intro hq;cases op<;>simp only[yC]at hq ⊢
 case shl=> have h0:¬b<0:=jB;exact⟨_,by simp[eqGuard_at_int,binOp,Op.shift,h0],.raw _⟩
 case shr=> have h0:¬b<0:=jB;exact⟨_,by simp[eqGuard_at_int,binOp,Op.shift,h0],.raw _⟩
 case quo=>obtain⟨rfl,h0⟩:=hq;exact⟨_,by simp[eqGuard_at_int,binOp,Op.intDiv,h0],.raw _⟩
 case rem=>obtain⟨rfl,h0⟩:=hq;exact⟨_,by simp[eqGuard_at_int,binOp,Op.intDiv,h0],.raw _⟩
 case and=>subst hq;exact⟨_,by simp[eqGuard_at_int,binOp,Op.intBits,tL],.raw _⟩
 case or=>subst hq;exact⟨_,by simp[eqGuard_at_int,binOp,Op.intBits,tL],.raw _⟩
 case xor=>subst hq;exact⟨_,by simp[eqGuard_at_int,binOp,Op.intBits,tL],.raw _⟩
 case andNot=>subst hq;exact⟨_,by simp[eqGuard_at_int,binOp,Op.intBits,tL],.raw _⟩
 case eql=>subst hq;exact⟨.bool (decide (a=b)),by simp[eqGuard_at_int,binOp,Op.intCmp,Cn],.raw _⟩
 case neq=>subst hq;exact⟨.bool (!decide (a=b)),by simp[eqGuard_at_int,binOp,Op.intCmp,bne,Cn],.raw _⟩
 all_goals(subst hq;exact⟨_,by simp[eqGuard_at_int,binOp,Op.intArith,Op.intCmp];try rfl,.raw _⟩)
def Um(op:BinOp)(t:TypeId)(a b:ByteArray)(x y:Operand):kG P w (do eqGuard op t x y (.string a) (.string b);binOp op t (.string a) (.string b)) (Ah op a b):=by
 intro hq;cases op<;>simp only[Ah]at hq ⊢
 case add=>
  have h0:¬(((a.size+b.size:Nat):Int)>IntKind.i64.max):=by rw[IntKind.max_i64];omega
  exact⟨_,by simp only[eqGuard_at_string,binOp,Op.stringOp,pure_bind,if_neg h0,Sem.run_pure],.raw _⟩
 case eql=>exact⟨_,by simp[eqGuard_at_string,binOp,Op.stringOp,xK],.raw _⟩
 case neq=>exact⟨_,by simp[eqGuard_at_string,binOp,Op.stringOp,xK],.raw _⟩
 case lss=>exact⟨_,by simp[eqGuard_at_string,binOp,Op.stringOp],.raw _⟩
 case gtr=>exact⟨_,by simp[eqGuard_at_string,binOp,Op.stringOp,xK],.raw _⟩
 case leq=>exact⟨_,by simp[eqGuard_at_string,binOp,Op.stringOp,xK],.raw _⟩
 case geq=>exact⟨_,by simp[eqGuard_at_string,binOp,Op.stringOp],.raw _⟩
 all_goals exact hq.elim
variable{t:TypeId}
def Mv{m:String}(h:(oS P t m).isSome=true)(v:Value)(W:World):(nilAhead (P.types.size+Made.depth) t v m).run P W=.ok (some false) W:=by
 obtain⟨f,h⟩:=Option.isSome_iff_exists.1 h;unfold oS at h;split at h;rotate_left
 ·cases h
 rename_i ti e ht hu;split at h;rotate_left
 ·cases h
 rename_i r hr;split at h;rotate_left
 ·cases h
 rename_i hp;split at h;rotate_left
 ·cases h
 rename_i g hf;cases h;have XP:r.path.toList=[]:=by have:=Array.isEmpty_iff.1 hp;rw[this]
 obtain⟨n,hn⟩:∃n,P.types.size+Made.depth=n+1:=⟨P.types.size+Made.depth-1,by have hd:=(by decide:Made.depth≠0);omega⟩;rw[hn];unfold nilAhead;simp only[Sem.run_bind,run_typeInfo W ht,Result.andThen_ok,hr,XP,followBlind,Sem.run_pure,hf]
def Td(x:Operand){ρ:Operand->Value}(hx:ρ x=v)(h:aw w a v)(o:Oper)(ho:o.op=.nilCheck x):(qa P a).1->∃v',(execOp ρ o).run P w.toWorld=.ok (.value v') w.toWorld/\aw w (qa P a).2 v':=by
 intro hq;unfold qa at*;split at hq<;>try exact hq.elim
 ·cases h with
  |mv _ _ u h=>
   cases h with
   |iS _ _ u h=> refine⟨_,?_,.mv _ _ _ (.iS _ _ _ h)⟩;simp[execOp,ho,hx,Mv hq]
 ·cases h with|ip _ ad vs hb hH D' hr=>exact⟨.pointer (some ad),by simp[execOp,ho,hx],.ip _ ad vs hb hH D' hr⟩
 ·cases h with|pt _ _ _ _ b t s hn=>exact⟨_,by simp[execOp,ho,hx],.pt _ _ _ _ b t s hn⟩
 all_goals(have:=cZ h;subst this;exact⟨_,by simp[execOp,ho,hx];try rfl,.raw _⟩)
def y5(h:ta P t=true):∃e,P.underlying t=some (.pointer e):=by unfold ta at h;split at h<;>simp_all
def Tb(h:xF P t=true):P.underlying t=some .bool:=by unfold xF at h;split at h<;>simp_all
def yM(h:ru P t=true):P.underlying t=some .string:=by unfold ru at h;split at h<;>simp_all
def pu(h:gY P t=true):∃e,P.underlying t=some (.slice e):=by unfold gY at h;split at h<;>simp_all
def rE{x y:Value}{r:Bool}(h:∀d,(Op.equalIn (d+1) t x y).run P w.toWorld=.ok r w.toWorld):(Op.equal t x y).run P w.toWorld=.ok r w.toWorld:=h 9999
def rh{ne:Bool}{x y:Operand}{a b:Value}{r:Bool}(hg:∀op,eqGuard op t x y a b=pure ())(h1:binOp .eql t a b=(do pure (.bool (<-Op.equal t a b))))(h2:binOp .neq t a b=(do pure (.bool (!(<-Op.equal t a b)))))
  (he:(Op.equal t a b).run P w.toWorld=.ok r w.toWorld):∃v,(do eqGuard (if ne then .neq else .eql) t x y a b;binOp (if ne then .neq else .eql) t a b:Sem Value).run P w.toWorld=.ok v w.toWorld/\aw w (.raw (.bool (ne ^^ r))) v:=by
 cases ne
 ·simp only[Bool.false_eq_true,if_false,hg,h1,Sem.run_bind,he,Sem.run_pure,Result.andThen_ok];exact⟨_,rfl,by simpa using aw.raw _⟩
 ·simp only[if_true,hg,h2,Sem.run_bind,he,Sem.run_pure,Result.andThen_ok];exact⟨_,rfl,by simpa using aw.raw _⟩
def J7(ne:Bool)(t:TypeId){b:AV}(x y:Operand)(ha:aw w a va)(hb:aw w b vb) :
  kG P w (do eqGuard (if ne then .neq else .eql) t x y va vb;binOp (if ne then .neq else .eql) t va vb) (xr P ne t a b):=by
 intro hq;unfold xr at*;split at hq<;>try exact hq.elim
 ·have:=cZ ha;have:=cZ hb;subst_vars
  have ht:=Tb hq;exact rh (fun op=>eqGuard_at_bool _ _ _ _ _ _) rfl rfl (rE (fun d=>by simp[Op.equalIn,run_underlying ht]))
 ·have:=cZ ha;have:=cZ hb;subst_vars
  obtain⟨e,ht⟩:=y5 hq;exact rh (fun op=>eqGuard_at_pointer _ _ _ _ _ _) rfl rfl (rE (fun d=>by simp[Op.equalIn,run_underlying ht]))
 ·have:=cZ ha;have:=cZ hb;subst_vars
  obtain⟨e,ht⟩:=y5 hq;rename_i pa;have:=rh (P:=P) (w:=w) (ne:=ne) (t:=t) (x:=x) (y:=y) (a:=.pointer (some pa)) (b:=.pointer none) (r:=false) (fun op=>eqGuard_at_pointer _ _ _ _ _ _) rfl rfl (rE (fun d=>by simp[Op.equalIn,run_underlying ht]));simpa using this
 ·have:=cZ hb;subst_vars
  obtain⟨e,ht⟩:=y5 hq;cases ha with|ip cs ad vs _ _ _ _=>
  have:=rh (P:=P) (w:=w) (ne:=ne) (t:=t) (x:=x) (y:=y) (a:=.pointer (some ad)) (b:=.pointer none) (r:=false) (fun op=>eqGuard_at_pointer _ _ _ _ _ _) rfl rfl (rE (fun d=>by simp[Op.equalIn,run_underlying ht]));simpa using this
 ·have:=cZ hb;subst_vars
  obtain⟨e,ht⟩:=y5 hq;rename_i i m k j;cases ha with|pt _ _ _ _ bb tt ss _=>
  have:=rh (P:=P) (w:=w) (ne:=ne) (t:=t) (x:=x) (y:=y) (a:=.pointer (some ⟨bb,k*ss+j,none⟩)) (b:=.pointer none) (r:=false) (fun op=>eqGuard_at_pointer _ _ _ _ _ _) rfl rfl (rE (fun d=>by simp[Op.equalIn,run_underlying ht]));simpa using this
 ·have:=cZ ha;have:=cZ hb;subst_vars
  obtain⟨e,ht⟩:=pu hq;exact rh (fun op=>eqGuard_at_slice _ _ _ _ _ _ _ _) rfl rfl (rE (fun d=>by simp[Op.equalIn,run_underlying ht]))
 ·have:=cZ ha;have:=cZ hb;subst_vars
  obtain⟨e,ht⟩:=pu hq;rename_i pa n c m d;have:=rh (P:=P) (w:=w) (ne:=ne) (t:=t) (x:=x) (y:=y) (a:=.slice (some pa) n c) (b:=.slice none m d) (r:=false) (fun op=>eqGuard_at_slice _ _ _ _ _ _ _ _) rfl rfl (rE (fun d=>by simp[Op.equalIn,run_underlying ht]));simpa using this
 ·have:=cZ hb;subst_vars
  obtain⟨hq,VZ⟩:=hq;obtain⟨e,ht⟩:=pu hq;rename_i css _ m d;cases ha with
  |hJ=>exact(VZ rfl).elim
  |sl _ _ _ a c vs _ _ _ _ _ _ _ _=> have:=rh (P:=P) (w:=w) (ne:=ne) (t:=t) (x:=x) (y:=y) (a:=.slice (some a) css.length c) (b:=.slice none m d) (r:=false) (fun op=>eqGuard_at_slice _ _ _ _ _ _ _ _) rfl rfl (rE (fun d=>by simp[Op.equalIn,run_underlying ht]));simpa using this
 ·split at hq
  ·rename_i ks hks;exact MU hks hq.1 hq.2.1 hq.2.2 ha hb
  ·exact hq.elim
def Hv(op:BinOp)(t:TypeId){b:AV}(x y:Operand)(ha:aw w a va)(hb:aw w b vb) :
  kG P w (do eqGuard op t x y va vb;binOp op t va vb) (fp P op t a b):=by
 unfold fp;split
 ·have:=cZ ha;have:=cZ hb;subst_vars;exact Pd op t _ _ _ _ x y
 ·have:=cZ ha;have:=cZ hb;subst_vars;exact Um op t _ _ x y
 ·split
  ·exact J7 false t x y ha hb
  ·exact J7 true t x y ha hb
  ·exact JL
def N3(op:UnOp)(h:aw w a v):kG P w (Op.unary op v) (tz op a):=by
 intro hq;unfold tz at*;split at hq<;>try exact hq.elim
 ·have:=cZ h;subst this;exact⟨_,by simp[Op.unary],.raw _⟩
 ·have:=cZ h;subst this;exact⟨_,by simp[Op.unary,Op.intArith],.raw _⟩
def Pc(t:TypeId)(h:aw w a v)(hw:aF w H):kG P w (Instr.loadAt t v) (oq P H t a):=by
 intro hq;unfold oq at*;split at hq<;>try exact hq.elim
 ·rename_i c cs k e1 e2 e3;exact Je h hw e1 hq.1 e2 e3 hq.2.1 hq.2.2
 ·rename_i c cs k e1 e2 e3;have:=Je (P:=P) h hw e1 hq.1 e2 e3 hq.2.1 hq.2.2;simpa[uo]using this
def Ke{f off:Nat}(h:bX P t f=some off):∃fs fd k,P.underlying t=some (.struct fs)/\fs[f]?=some fd/\cQ P fd.type=some (k+1)/\fd.offset=off:=by
 unfold bX at h;split at h
 ·rename_i fs hu;split at h
  ·rename_i fd hf;split at h
   ·rename_i k hk;exact⟨fs,fd,k,hu,hf,hk,by simpa using h⟩
   ·cases h
  ·cases h
 ·cases h
def Tr(t:TypeId)(f:Nat)(h:aw w a v):kG P w (Instr.fieldAt t v f) (qz P t a f):=by
 intro hq;unfold qz at*;split at hq<;>try exact hq.elim
 ·rename_i cs off e;obtain⟨fs,fd,k,hu,hf,hk,rfl⟩:=Ke e;cases h with|ip _ ad vs hb hH D' hr=>
  refine⟨.pointer (some (ad.add fd.offset)),?_,.ip _ _ (fun j=>vs (fd.offset+j)) (by rw[p8];exact hb) (by rw[p8];exact hH) (fun j hj=>?_) (fun j u hu=>?_)⟩
  ·simp[Instr.fieldAt,run_underlying hu,hf,Instr.sureAddr,fieldPlace,lQ hk]
  ·rw[xl];exact D' _ (by simp at hj;omega)
  ·rw[List.getElem?_drop]at hu;exact hr _ _ hu
 ·rename_i i m q j off e;obtain⟨fs,fd,k,hu,hf,hk,rfl⟩:=Ke e;cases h with|pt _ _ _ _ b t s hn=>
  refine⟨.pointer (some ⟨b,q*s+j+fd.offset,none⟩),?_,?_⟩
  ·simp[Instr.fieldAt,run_underlying hu,hf,Instr.sureAddr,fieldPlace,lQ hk,j3]
  ·rw[Nat.add_assoc];exact .pt i m q (j+fd.offset) b t s hn
def Ny{ft:TypeId}{f off:Nat}(h:vm P t f=some (ft,off)):∃fs fd,P.underlying t=some (.struct fs)/\fs[f]?=some fd/\fd.type=ft/\fd.offset=off:=by
 unfold vm at h;split at h
 ·rename_i fs hu;simp only[Option.map_eq_some_iff,Prod.mk.injEq]at h;obtain⟨fd,hf,h1,h2⟩:=h;exact⟨fs,fd,hu,hf,h1,h2⟩
 ·cases h
def Sb(t:TypeId){cs:List AV}{vs:Array Value}(hl:cs.length=vs.size)(hr:∀(i:Nat) a v,cs[i]?=some a->vs[i]?=some v->aw w a v)(off:Nat):kG P w (part t vs off) (Aj P t cs off):=by
 intro hq;unfold Aj at*;split at hq<;>try exact hq.elim
 ·rename_i k e1 e2;simp only at hq;refine⟨.agg (vs.extract off (off+k)),by simp[part,xH e1,lQ e2],.agg _ _ jF fun i a v ha hv=>?_⟩;rw[List.getElem?_take]at ha;split at ha
  ·rw[List.getElem?_drop]at ha;refine hr _ a v ha ?_;rw[Array.getElem?_extract]at hv;split at hv<;>simp_all
  ·cases ha
 ·rename_i k e1 e2;simp only at hq;have h1:vs[off]?=some (vs[off]' jB):=Array.getElem?_eq_getElem jB;refine⟨vs[off]' jB,by simp[part,xH e1,h1],hr off _ _ ?_ h1⟩;simp[List.getElem?_eq_getElem hq]
def NV(t:TypeId)(f:Nat)(h:aw w a v):kG P w (Instr.field t v f) (wC P t a f):=by
 unfold wC;split
 ·rename_i cs ft off e;obtain⟨fs,fd,hu,hf,rfl,rfl⟩:=Ny e;cases h with|agg _ vs hl hr=> intro hq;obtain⟨v,h1,h2⟩:=Sb (P:=P) fd.type hl hr fd.offset hq;exact⟨v,by simpa[Instr.field,run_underlying hu,hf,asAgg]using h1,h2⟩
 ·exact JL
def oV{k:Nat}(h:iy P t=some k):∃e,P.underlying t=some (.slice e)/\cQ P e=some k:=by
 unfold iy iE at h;split at h
 ·rename_i e hu;exact⟨e,hu,by simpa using h⟩
 ·cases h
def Jz{n k:Nat}(h:zz P t=some (n,k)):∃e,P.underlying t=some (.array n e)/\cQ P e=some k:=by
 unfold zz at h;split at h
 ·rename_i len e hu;simp only[Option.map_eq_some_iff,Prod.mk.injEq]at h;obtain⟨s,h1,rfl,rfl⟩:=h;exact⟨e,hu,h1⟩
 ·cases h
def Na(t:TypeId){i:AV}{vi:Value}(ha:aw w a va)(hi:aw w i vi):kG P w (Instr.indexAt t va vi) (sT P t a i):=by
 intro hq;unfold sT at*;split at hq<;>try exact hq.elim
 ·rename_i x sz css d k j;have:=cZ hi;subst this;obtain⟨e,hu,hs⟩:=oV hq.1;have h0:=hq.2.1;have h1:=hq.2.2;cases ha with
  |hJ=>simp at h1;omega
  |sl _ _ _ ad c vs hn hc hx Vb hb hH D' hr=>
   have VR:=vu Vb (show j.toNat<css.length from jB);have hd:css.getD j.toNat d=css.getD j.toNat []:=by simp[show j.toNat<css.length from jB]
   rw[hd];refine⟨.pointer (some (ad.add (j.toNat*sz))),?_,.ip _ _ (fun m=>vs (j.toNat*sz+m)) (by rw[p8];exact hb) (by rw[p8];exact hH) (fun m hm=>?_) (fun m u hu=>?_)⟩
   ·simp[Instr.indexAt,asIntOf,run_underlying hu,h0,h1,lQ hs]
   ·rw[xl];exact D' _ m jB jB
   ·exact hr _ m u jB hu
 ·rename_i d m sz n k j;have:=cZ hi;subst this;obtain⟨e,hu,hs⟩:=oV hq.1;have h0:=hq.2.1;have h1:=hq.2.2;cases ha with
  |iH=>simp at h1;omega
  |rs _ _ _ _ b t c hn hc Vj Wp=> refine⟨.pointer (some ⟨b,j.toNat*sz,none⟩),?_,.pt d m j.toNat 0 b t sz hn⟩;simp[Instr.indexAt,asIntOf,run_underlying hu,h0,h1,lQ hs,j3]
 ·rename_i d m sz n k j;have:=cZ hi;subst this;obtain⟨e,hu,hs⟩:=oV hq.1;have h0:=hq.2.1;have h1:=hq.2.2;cases ha with
  |rc _ _ _ _ b t hn hc Vj Wp=> refine⟨.pointer (some ⟨b,j.toNat*sz,none⟩),?_,.pt d m j.toNat 0 b t sz hn⟩;simp[Instr.indexAt,asIntOf,run_underlying hu,h0,h1,lQ hs,j3]
 ·rename_i d m sz o n k j;have:=cZ hi;subst this;obtain⟨e,hu,hs⟩:=oV hq.1;have h0:=hq.2.1;have h1:=hq.2.2;cases ha with
  |kj=>simp at h1;omega
  |rv _ _ _ _ _ b t c hn Vj=> refine⟨.pointer (some ⟨b,(o+j.toNat)*sz,none⟩),?_,.pt d m (o+j.toNat) 0 b t sz hn⟩;simp[Instr.indexAt,asIntOf,run_underlying hu,h0,h1,lQ hs,j3,Nat.add_mul]
 ·rename_i d m k j kk i;have:=cZ hi;subst this;unfold yR at*;split at hq
  ·rename_i len s e;obtain⟨el,hu,hs⟩:=Jz e;cases ha with
   |pt _ _ _ _ b t sz hn=> refine⟨.pointer (some ⟨b,k*sz+(j+i.toNat*s),none⟩),?_,.pt d m k _ b t sz hn⟩;simp[Instr.indexAt,asIntOf,run_underlying hu,hq.1,hq.2,lQ hs,j3,Instr.sureAddr,Nat.add_assoc]
  ·exact hq.elim
 ·rename_i cs kk i;have:=cZ hi;subst this;unfold yR at*;split at hq
  ·rename_i len s e;obtain⟨el,hu,hs⟩:=Jz e;cases ha with
   |ip _ ad vs hb hH D' hr=>
    refine⟨.pointer (some (ad.add (i.toNat*s))),?_,.ip _ _ (fun m=>vs (i.toNat*s+m)) (by rw[p8];exact hb) (by rw[p8];exact hH) (fun m hm=>?_) (fun m u hu=>?_)⟩
    ·simp[Instr.indexAt,asIntOf,run_underlying hu,hq.1,hq.2,lQ hs,Instr.sureAddr]
    ·rw[xl];exact D' _ (by simp at hm;omega)
    ·exact hr _ u (by rwa [List.getElem?_drop]at hu)
  ·exact hq.elim
def T0(t:TypeId){i:AV}{vi:Value}(ha:aw w a va)(hi:aw w i vi):kG P w (Instr.index t va vi) (tJ P t a i):=by
 intro hq;unfold tJ at*;split at hq<;>try exact hq.elim
 rename_i s k j;have:=cZ hi;have:=cZ ha;subst_vars
 have ht:=yM hq.1;have h0:=hq.2.1;have h1:j.toNat<s.size:=by have:=hq.2.2;omega
 refine⟨.int .u8 (dY s j),?_,.raw _⟩;have h2:s[j.toNat]?=some s[j.toNat]:=by simp[h1]
 have h3:dY s j=(s[j.toNat].toNat:Int):=by have h4:s.data[j.toNat]?=some s[j.toNat]:=Array.getElem?_eq_getElem h1;simp only[dY,h4,Option.getD_some]
 simp[Instr.index,asIntOf,run_underlying ht,h0,h2,h3]
def MB(h:aw w a v)(i:Nat):kG P w (Instr.extract v i) (vG a i):=by
 intro hq;unfold vG at*;split at hq<;>try exact hq.elim
 rename_i cs;cases h with|aY _ vs hl hr=>
 simp only at hq;have h1:vs[i]?=some (vs[i]' jB):=Array.getElem?_eq_getElem jB;refine⟨vs[i]' jB,by simp[Instr.extract,h1],hr i _ _ ?_ h1⟩;simp[List.getElem?_eq_getElem hq]
def LL(fn:Fn){a b:List AV}{va vb:List Value}(ha:bZ w a va)(hb:bZ w b vb):kG P w (Instr.makeFunc fn va.toArray vb.toArray) (vk fn a b):=by
 intro hq;unfold vk at*;split at hq<;>try exact hq.elim
 ·rename_i f;have:va=[]:=by have:=ha.1;simpa using this.symm
  subst this;exact⟨.func (.func f) #[] vb.toArray,by simp[Instr.makeFunc],.eT f _ _ (by rw[hb.1];simp) (fun i a v h1 h2=>hb.2 i a v h1 (by simpa using h2))⟩
 ·rename_i f x l;have hq:b=[]:=hq;subst hq;have:vb=[]:=by have:=hb.1;simpa using this.symm
  subst this;exact⟨.func (.func f) va.toArray #[],by simp[Instr.makeFunc],.bd f _ _ (by rw[ha.1];simp) (fun i a v h1 h2=>ha.2 i a v h1 (by simpa using h2))⟩
 ·rename_i m x;have hq:b=[]:=hq;subst hq;have:vb=[]:=by have:=hb.1;simpa using this.symm
  subst this;obtain⟨u,rfl⟩:∃u,va=[u]:=by
   have:=ha.1;match va,this with
   |[u],_=>exact⟨u,rfl⟩
  exact⟨.func (.method m) #[u] #[],by simp[Instr.makeFunc],.mv m _ _ (ha.2 0 _ _ rfl rfl)⟩
def RP(t:TypeId)(h:aw w a v):kG P w (Instr.makeInterface t v) (vA P t a):=by
 intro hq;unfold vA at*;split at hq<;>try exact hq.elim
 ·rename_i u d e1 e2;have:=cZ h;subst this;refine⟨.iface t v,?_,.raw _⟩;simp only[Instr.makeInterface,Sem.run_bind,run_underlying e2,Result.andThen_ok];cases d<;>first|rfl|(simp[AA,e2]at e1)
 ·rename_i d _ e1 hu;refine⟨.iface t v,?_,.iS t _ v h⟩;simp only[Instr.makeInterface,Sem.run_bind,run_underlying hu,Result.andThen_ok];cases d<;>first|rfl|(simp[AA,hu]at e1)
def PZ(h:yV P t=true):∃k e,P.underlying t=some (.map k e):=by
 unfold yV at h;split at h
 ·exact⟨_,_,by assumption⟩
 ·cases h
theorem EO:∀(n:Nat) (ks vs:List Value),(iZ n ks vs).length=min ks.length vs.length
 |n,[],vs=>by simp[iZ]
 |n,k::ks,[]=>by simp[iZ]
 |n,k::ks,v::vs=>by simp[iZ,EO (n+1) ks vs]
def RV(ty t:TypeId)(ts:List TypeId)(vs:List Value)(hw:aF w H)(h:aw w a v):kG P w (Builtin.len_ (t::ts).toArray ty (v::vs).toArray) (u6 P H t a):=by
 intro hq;unfold u6 at*;split at hq<;>try exact hq.elim
 ·split at hq<;>try exact hq.elim
  rename_i hm;rw[if_pos hm];split at hq<;>try exact hq.elim
  rename_i ks vs hi;obtain⟨k,e,ht⟩:=PZ hq;cases h with
  |mr _ b t' s hn=>
   obtain⟨hok,z,hz,Vl⟩:=hw.rows _ _ hi;have:z=.at b t' s:=by have hz:w.nm _ 0=some z:=hz;rw[hn]at hz;cases hz;rfl
   subst this;obtain⟨_,cur,hh,VJ,_⟩:=Vl;have hh:w.heap[b]?=some (.map (iZ 0 ks cur.toList).toArray ks.length):=hh;have VJ:cur.size=vs.length:=VJ;have hok:ks.length=vs.length:=hok;refine⟨_,?_,.raw _⟩;simp[Builtin.len_,run_underlying ht,MapKept.run_getObj_map hh,goInt,EO,hok,VJ]
 ·obtain⟨e,ht⟩:=pu hq;cases h<;>exact⟨_,by simp[Builtin.len_,run_underlying ht,goInt];try rfl,.raw _⟩
 ·obtain⟨e,ht⟩:=pu hq;cases h<;>exact⟨_,by simp[Builtin.len_,run_underlying ht,goInt];try rfl,.raw _⟩
 ·obtain⟨e,ht⟩:=pu hq;cases h<;>exact⟨_,by simp[Builtin.len_,run_underlying ht,goInt];try rfl,.raw _⟩
 ·obtain⟨e,ht⟩:=pu hq;cases h<;>exact⟨_,by simp[Builtin.len_,run_underlying ht,goInt];try rfl,.raw _⟩
 ·obtain⟨e,ht⟩:=pu hq;have:=cZ h;subst this;exact⟨_,by simp[Builtin.len_,run_underlying ht,goInt],.raw _⟩
 ·have ht:=yM hq;have:=cZ h;subst this;exact⟨_,by simp[Builtin.len_,run_underlying ht,goInt],.raw _⟩
def P1(ty t:TypeId)(ts:List TypeId)(vs:List Value)(h:aw w a v):kG P w (Builtin.cap_ (t::ts).toArray ty (v::vs).toArray) (Ae P t a):=by
 intro hq;unfold Ae at*;split at hq<;>try exact hq.elim
 ·obtain⟨e,ht⟩:=pu hq;cases h with
  |hJ _ _ _ c hx=>have:=hx rfl;subst this;exact⟨_,by simp[Builtin.cap_,run_underlying ht,goInt],.raw _⟩
  |sl _ _ _ _ c _ _ _ hx=>have:=(hx rfl).1;subst this;exact⟨_,by simp[Builtin.cap_,run_underlying ht,goInt],.raw _⟩
 ·obtain⟨e,ht⟩:=pu hq;cases h;exact⟨_,by simp[Builtin.cap_,run_underlying ht,goInt],.raw _⟩
 ·obtain⟨e,ht⟩:=pu hq;have:=cZ h;subst this;exact⟨_,by simp[Builtin.cap_,run_underlying ht,goInt],.raw _⟩
end
end Go.Gd
namespace Go.Gd
open Go
abbrev UO:=List AV->Hp->Prop
abbrev UP:=AV->Hp->Prop
abbrev UQ:=List (List AV)
abbrev UR:=List (Nat×Row)
abbrev US:=List AV
abbrev UT:=List (List Int)
abbrev UU:=List Int
abbrev UW:=List Nat
abbrev UX:=ByteArray
abbrev UY:=TypeId
abbrev UZ:=Operand->AV
abbrev U0:=Array Value
abbrev U1:=List Value
abbrev U2:=Nat->Bool
abbrev U3:=Program
abbrev U4:=Nat->Row
abbrev U5:=Nat×Row
end Go.Gd

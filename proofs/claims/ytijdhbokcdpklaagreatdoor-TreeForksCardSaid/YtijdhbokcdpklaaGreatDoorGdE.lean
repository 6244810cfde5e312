/- Lemmas. No conditions. -/
import Derived.Tactics
import Derived.Lib.ItoaNum
import Derived.Below
import Derived.Laws.AppendOwn
import Derived.Laws.Cells
import Derived.Deep.LoopGhost
import Derived.Orders
import Derived.Scope
import Derived.Laws.Slices
import Derived.WalkKit
import Derived.Laws.StructEq
set_option linter.all false
namespace Go.Gd
open Go
variable{p:Prop}
def jB(h:p:=by first|(omega)|fail):p:=h
def jC(h:p:=by first|(decide)|fail):p:=h
def jD(h:p:=by first|(simp only[go_sem])|fail):p:=h
def jE(h:p:=by first|(simp)|fail):p:=h
def jF(h:p:=by first|(simp;omega)|fail):p:=h
def jG(h:p:=by first|(kernel_rfl)|fail):p:=h
def jH(h:p:=by first|(intro;omega)|fail):p:=h
def jJ(h:p:=by first|((try simp only);omega)|fail):p:=h
def jz(h:p:=by first|contradiction|omega|fail):p:=h
def jl{n:Nat}:n<=n:=Nat.le_refl n
def wv(h:p:=by first|(simp only[go_sem,↓reduceIte,Int.reduceEq,Int.reduceLE,Int.reduceLT,Int.reduceNe,Int.reduceToNat,Nat.reduceMul,Nat.reduceAdd,Nat.reduceLeDiff,Nat.reduceSub,Nat.reduceEqDiff,Nat.reduceBEq,List.nodup_cons,List.nodup_nil,List.mem_cons,List.not_mem_nil,List.mem_nil_iff];done)|fail):p:=h
def uo(h:p:=by first|(simp only[go_sem,↓reduceIte,Int.reduceEq,Int.reduceLE,Int.reduceLT,Int.reduceNe,Int.reduceToNat,Nat.reduceMul,Nat.reduceAdd,Nat.reduceLeDiff,Nat.reduceSub,Nat.reduceEqDiff,Nat.reduceBEq,List.nodup_cons,List.nodup_nil,List.mem_cons,List.not_mem_nil,List.mem_nil_iff];rfl)|fail):p:=h
def jI:True:=⟨⟩
def jN {α:Sort _} {c:Prop} [Decidable c] {a b:α} (h:¬c:=by omega):(if c then a else b)=b:=if_neg h
def jP {α:Sort _} {c:Prop} [Decidable c] {a b:α} (h:c:=by omega):(if c then a else b)=a:=if_pos h
def jA {a b:Prop}(h:a)(k:b):a∧b:=⟨h,k⟩
def A2:List (Nat×List Value):=[(0,Lib.pow10Tab.map (Value.int .u64))]
def jW:List Nat:=[238,245]
inductive AV where
 |raw (v:Value)
 |any
 |agg (cs:List AV)
 |aQ (vs:List AV)
 |sl (x:Bool) (sz:Nat) (css:List (List AV)) (d:List AV)
 |ip (cs:List AV)
 |gd (p:Bool) (v:AV)
 |dW (f:FuncId) (cs:List AV)
 |pt (i m k j:Nat)
 |rs (i m sz n:Nat)
 |rc (i m sz n:Nat)
 |rv (i m sz o n:Nat)
 |mr (i:Nat)
 |bd (f:FuncId) (fs:List AV)
 |iK (t:TypeId) (v:AV)
 |mv (m:String) (v:AV)
instance:Inhabited AV:=⟨.any⟩
mutual
def AV.all(q:Nat->Bool):AV->Bool
 |.agg cs=>aY q cs
 |.aQ cs=>aY q cs
 |.dW _ cs=>aY q cs
 |.bd _ fs=>aY q fs
 |.iK _ v=>v.all q
 |.mv _ v=>v.all q
 |.gd _ v=>v.all q
 |.pt i _ _ _=>q i
 |.rs i _ _ _=>q i
 |.rc i _ _ _=>q i
 |.rv i _ _ _ _=>q i
 |.mr i=>q i
 |.raw _=>true
 |.any=>true
 |.sl _ _ _ _=>true
 |.ip _=>true
def aY(q:Nat->Bool):List AV->Bool
 |[]=>true
 |a::l=>a.all q && aY q l
end
theorem lK{q:Nat->Bool}:∀{l:List AV},aY q l=true->∀{i:Nat} {a:AV},l[i]?=some a->a.all q=true
 |[],_,i,a,h=>by simp at h
 |x::l,hl,i,a,h=>by
  simp only[aY,Bool.and_eq_true]at hl;cases i with
  |zero=>simp at h;subst h;exact hl.1
  |succ i=>exact lK hl.2 (by simpa using h)
mutual
theorem qe{q p:Nat->Bool}(hq:∀i,q i=true->p i=true):∀a:AV,a.all q=true->a.all p=true
 |.agg cs,h=>by simp only[AV.all]at h ⊢;exact fV hq cs h
 |.aQ cs,h=>by simp only[AV.all]at h ⊢;exact fV hq cs h
 |.dW _ cs,h=>by simp only[AV.all]at h ⊢;exact fV hq cs h
 |.bd _ fs,h=>by simp only[AV.all]at h ⊢;exact fV hq fs h
 |.iK _ v,h=>by simp only[AV.all]at h ⊢;exact qe hq v h
 |.mv _ v,h=>by simp only[AV.all]at h ⊢;exact qe hq v h
 |.gd _ v,h=>by simp only[AV.all]at h ⊢;exact qe hq v h
 |.pt i _ _ _,h=>hq i (by simpa only[AV.all]using h)
 |.rs i _ _ _,h=>hq i (by simpa only[AV.all]using h)
 |.rc i _ _ _,h=>hq i (by simpa only[AV.all]using h)
 |.rv i _ _ _ _,h=>hq i (by simpa only[AV.all]using h)
 |.mr i,h=>hq i (by simpa only[AV.all]using h)
 |.raw _,_=>by simp only[AV.all]
 |.any,_=>by simp only[AV.all]
 |.sl _ _ _ _,_=>by simp only[AV.all]
 |.ip _,_=>by simp only[AV.all]
theorem fV{q p:Nat->Bool}(hq:∀i,q i=true->p i=true):∀l:List AV,aY q l=true->aY p l=true
 |[],_=>rfl
 |a::l,h=>by simp only[aY,Bool.and_eq_true]at h ⊢;exact⟨qe hq a h.1,fV hq l h.2⟩
end
mutual
theorem nA:∀a:AV,a.all (fun _=>true)=true
 |.agg cs=>by simp only[AV.all];exact vJ cs
 |.aQ cs=>by simp only[AV.all];exact vJ cs
 |.dW _ cs=>by simp only[AV.all];exact vJ cs
 |.bd _ fs=>by simp only[AV.all];exact vJ fs
 |.iK _ v=>by simp only[AV.all];exact nA v
 |.mv _ v=>by simp only[AV.all];exact nA v
 |.gd _ v=>by simp only[AV.all];exact nA v
 |.pt i _ _ _=>by simp only[AV.all]
 |.rs i _ _ _=>by simp only[AV.all]
 |.rc i _ _ _=>by simp only[AV.all]
 |.rv i _ _ _ _=>by simp only[AV.all]
 |.mr i=>by simp only[AV.all]
 |.raw _=>by simp only[AV.all]
 |.any=>by simp only[AV.all]
 |.sl _ _ _ _=>by simp only[AV.all]
 |.ip _=>by simp only[AV.all]
theorem vJ:∀l:List AV,aY (fun _=>true) l=true
 |[]=>rfl
 |a::l=>by simp only[aY,Bool.and_eq_true];exact⟨nA a,vJ l⟩
end
inductive Row where
 |var (t:TypeId) (cs:List AV)
 |aG (e:TypeId) (sz:Nat) (css:List (List AV))
 |mp (ks:List Value) (vs:List AV)
def Row.fR:Row->Nat
 |.var _ _=>0
 |.aG _ _ css=>css.length
 |.mp _ _=>0
def Row.elem:Row->TypeId
 |.var t _=>t
 |.aG e _ _=>e
 |.mp _ _=>0
def Row.bB:Row->Nat
 |.var _ _=>0
 |.aG _ sz _=>sz
 |.mp _ _=>0
def Row.cells:Row->List AV
 |.var _ cs=>cs
 |.aG _ _ css=>css.flatten
 |.mp _ vs=>vs
def Row.ok:Row->Prop
 |.var _ _=>True
 |.aG _ sz css=>0<sz/\∀cs∈css,cs.length=sz
 |.mp ks vs=>ks.length=vs.length
def iQ:Nat->List Value->List Value->List MapEntry
 |n,k::ks,v::vs=>⟨k,v,n⟩::iQ (n+1) ks vs
 |_,_,_=>[]
def Row.obj(r:Row)(cur:Array Value):Obj:=match r with
 |.mp ks _=>.map (iQ 0 ks cur.toList).toArray ks.length
 |.var t _=>.cells cur t (0,0)
 |.aG e _ _=>.cells cur e (0,0)
def Row.fit(r:Row)(n t:Nat):Prop:=match r with
 |.mp _ vs=>n=vs.length
 |.var ty cs=>n=t/\(Row.var ty cs).cells.length<=t
 |.aG e sz css=>n=t/\(Row.aG e sz css).cells.length<=t
def Row.zm:Row->Bool
 |.mp _ _=>false
 |_=>true
variable{r:Row}
def Row.sQ(h:r.zm=true)(cur:Array Value):r.obj cur=.cells cur r.elem (0,0):=by
 cases r with
 |var t cs=>rfl
 |aG e sz css=>rfl
 |mp ks vs=>cases h
def Row.tE(h:r.zm=true)(n t:Nat):r.fit n t=(n=t/\r.cells.length<=t):=by
 cases r with
 |var t cs=>rfl
 |aG e sz css=>rfl
 |mp ks vs=>cases h
structure Hp where
 B:List Nat
 l:List (Nat×Row)
def aA:List (Nat×Row)->Nat->Option Row
 |[],_=>none
 |(j,r)::l,i=>if i=j then some r else aA l i
def bj:List (Nat×Row)->Nat->Row->List (Nat×Row)
 |[],i,r=>[(i,r)]
 |(j,s)::l,i,r=>if i=j then(i,r)::l else(j,s)::bj l i r
def pz:List (Nat×Row)->Nat->List (Nat×Row)
 |[],_=>[]
 |(j,s)::l,i=>if i=j then pz l i else(j,s)::pz l i
def Hp.get(H:Hp)(i:Nat):Option Row:=aA H.l i
def Hp.put(H:Hp)(i:Nat)(r:Row):Hp:=⟨H.B,bj H.l i r⟩
theorem bP:∀(l:List (Nat×Row)) (i j:Nat) (r:Row),aA (bj l i r) j=if j=i then some r else aA l j
 |[],i,j,r=>by simp[bj,aA]
 |(k,s)::l,i,j,r=>by
  unfold bj;split
  ·rename_i h;subst h;simp only[aA];split<;>rfl
  ·rename_i h;simp only[aA];split
   ·rename_i h2;subst h2;rw[if_neg (fun e=>h e.symm)]
   ·exact bP l i j r
theorem CJ:∀(l:List (Nat×Row)) (i j:Nat),aA (pz l i) j=if j=i then none else aA l j
 |[],i,j=>by simp[pz,aA]
 |(k,s)::l,i,j=>by
  unfold pz;split
  ·rename_i h;subst h;rw[CJ l i j];simp only[aA];split<;>rfl
  ·rename_i h;simp only[aA];split
   ·rename_i h2;subst h2;rw[if_neg (fun e=>h e.symm)]
   ·exact CJ l i j
def Hp.bk(H:Hp)(i j:Nat)(r:Row):(H.put i r).get j=if j=i then some r else H.get j:=bP _ _ _ _
inductive Rz where
 |nil
 |at(b t s:Nat)
structure NW extends World where
 O:Nat->Prop
 nm:Nat->Nat->Option Rz
instance:Coe NW World:=⟨NW.toWorld⟩
@[reducible] def NW.bare(w:NW):NW:={ w with nm:=fun _ _=>none }
def QP(w:World)(b:Nat):Prop:=∃cur el,w.heap[b]?=some (.cells cur el (0,0))
inductive ax:NW->AV->Value->Prop
 |raw {w:NW} (v:Value):ax w (.raw v) v
 |any {w:NW} (v:Value):ax w .any v
 |agg {w:NW} (cs:List AV) (vs:Array Value) (hl:cs.length=vs.size) (h:∀(i:Nat) a v,cs[i]?=some a->vs[i]?=some v->ax w a v):ax w (.agg cs) (.agg vs)
 |aQ {w:NW} (cs:List AV) (vs:Array Value) (hl:cs.length=vs.size) (h:∀(i:Nat) a v,cs[i]?=some a->vs[i]?=some v->ax w a v):ax w (.aQ cs) (.tuple vs)
 |gG {w:NW} {d:List AV} (x:Bool) (sz:Nat) (A:Option Addr) (c:Nat) (hx:x=true->c=0):ax w (.sl x sz [] d) (.slice A 0 c)
 |sl {w:NW} {d:List AV} (x:Bool) (sz:Nat) (css:List (List AV)) (a:Addr) (c:Nat) (vs:Nat->Value) (hn:0<css.length) (hc:css.length<=c) (hx:x=true->c=css.length/\QP w a.block) (Uu:∀cs∈css,cs.length=sz)
   (hb:a.block<w.heap.size) (hH:¬w.O a.block) (D':∀i j,i<css.length->j<sz->w.cell? (a.add (i*sz+j))=some (vs (i*sz+j)))
   (h:∀i (j:Nat) u,i<css.length->(css.getD i [])[j]?=some u->ax w.bare u (vs (i*sz+j))):ax w (.sl x sz css d) (.slice (some a) css.length c)
 |ip {w:NW} (cs:List AV) (a:Addr) (vs:Nat->Value) (hb:a.block<w.heap.size) (hH:¬w.O a.block) (D':∀j,j<cs.length->w.cell? (a.add j)=some (vs j))
   (h:∀(j:Nat) u,cs[j]?=some u->ax w.bare u (vs j)):ax w (.ip cs) (.pointer (some a))
 |gd {w:NW} (p:Bool) (a:AV) (v:Value) (h:p=true->ax w a v) (hu:p=false->v=undef):ax w (.gd p a) v
 |dW {w:NW} (f:FuncId) (cs:List AV) (vs:Array Value) (hl:cs.length=vs.size) (h:∀(i:Nat) a v,cs[i]?=some a->vs[i]?=some v->ax w a v):ax w (.dW f cs) (.func (.func f) #[] vs)
 |pt {w:NW} (i m k j b t s:Nat) (h:w.nm i m=some (.at b t s)):ax w (.pt i m k j) (.pointer (some ⟨b,k*s+j,none⟩))
 |iJ {w:NW} (i m sz:Nat) (A:Option Addr) (h:w.nm i m=some .nil):ax w (.rs i m sz 0) (.slice A 0 0)
 |rs {w:NW} (i m sz n b t c:Nat) (h:w.nm i m=some (.at b t sz)) (hc:c*sz=t) (hn:n<=c) (hs:0<sz):ax w (.rs i m sz n) (.slice (some ⟨b,0,none⟩) n c)
 |rc {w:NW} (i m sz n b t:Nat) (h:w.nm i m=some (.at b t sz)) (hc:m*sz=t) (hn:n<=m) (hs:0<sz):ax w (.rc i m sz n) (.slice (some ⟨b,0,none⟩) n m)
 |jn {w:NW} (i m sz o c:Nat) (A:Option Addr):ax w (.rv i m sz o 0) (.slice A 0 c)
 |rv {w:NW} (i m sz o n b t c:Nat) (h:w.nm i m=some (.at b t sz)) (hn:n<=c):ax w (.rv i m sz o n) (.slice (some ⟨b,o*sz,none⟩) n c)
 |mr {w:NW} (i b t s:Nat) (h:w.nm i 0=some (.at b t s)):ax w (.mr i) (.map (some b))
 |bd {w:NW} (f:FuncId) (fs:List AV) (vs:Array Value) (hl:fs.length=vs.size) (h:∀(i:Nat) a v,fs[i]?=some a->vs[i]?=some v->ax w a v):ax w (.bd f fs) (.func (.func f) vs #[])
 |iK {w:NW} (t:TypeId) (a:AV) (v:Value) (h:ax w a v):ax w (.iK t a) (.iface t v)
 |mv {w:NW} (m:String) (a:AV) (v:Value) (h:ax w a v):ax w (.mv m a) (.func (.method m) #[v] #[])
def cf(w:NW)(cs:List AV)(vs:List Value):Prop:=cs.length=vs.length/\∀(i:Nat) a v,cs[i]?=some a->vs[i]?=some v->ax w a v
def bs(w:NW)(F:List AV)(tm:Array Value):Prop:=F.length=tm.size/\∀(i:Nat) a v,F[i]?=some a->tm[i]?=some v->ax w a v
def gw(w:NW)(r:Row):Rz->Prop
 |.nil=>∃e sz,r=.aG e sz []
 |.at b t s=>s=r.bB/\∃cur:Array Value,w.heap[b]?=some (r.obj cur)/\r.fit cur.size t/\∀(i:Nat) a v,r.cells[i]?=some a->cur[i]?=some v->ax w a v
structure Keep(q:Nat->Bool)(w w':NW):Prop where
 size:w.heap.size<=w'.heap.size
 free:∀b,b<w.heap.size->¬w.O b->w'.heap[b]?=w.heap[b]?/\¬w'.O b
 names:∀i m z,q i=true->w.nm i m=some z->w'.nm i m=some z
def ku(w:NW):Prop:=∀g vs,(g,vs)∈A2->(∃cur el fr,w.heap[g]?=some (.cells cur el fr)/\cur.toList=vs)/\¬w.O g
variable{w:NW}
def ku.aX{q:Nat->Bool}{w':NW}(h:ku w)(k:Keep q w w'):ku w':=fun g vs hm=>by obtain⟨⟨cur,el,fr,h1,h2⟩,h3⟩:=h g vs hm;have:=k.free g (Array.getElem?_eq_some_iff.1 h1).1 h3;exact⟨⟨cur,el,fr,this.1.trans h1,h2⟩,this.2⟩
structure aJ(w:NW)(H:Hp):Prop where
 cd:ku w
 rows:∀i r,H.get i=some r->r.ok/\∃z,w.nm i r.fR=some z/\gw w r z
 di:∀i m z,w.nm i m=some z->∃r,H.get i=some r/\m<=r.fR
 inj:∀i m j n b t s t' s',w.nm i m=some (.at b t s)->w.nm j n=some (.at b t' s')->i=j
 own:∀i m b t s,w.nm i m=some (.at b t s)->w.O b
 fin:∀b,w.O b->b<w.heap.size
structure ExtQ(q:Nat->Bool)(w w':NW):Prop extends Keep q w w' where
 os:w'.os=w.os
 tape:w'.tape=w.tape
 output:w'.output=w.output
 rest:∀b,b<w.heap.size->w.O b->(∀i m t s,w.nm i m≠some (.at b t s))->w'.heap[b]?=w.heap[b]?/\w'.O b/\∀i m t s,w'.nm i m≠some (.at b t s)
abbrev rG:Nat->Bool:=fun _=>true
structure Ext(w:NW)(H:Hp)(w':NW)(H':Hp):Prop extends ExtQ rG w w' where
 base:H'.B=H.B
structure fU(w:NW)(H:Hp)(w':NW)(H':Hp):Prop extends ExtQ (fun i=>H.B.contains i) w w' where
 base:H'.B=H.B
def Keep.refl(q:Nat->Bool)(w:NW):Keep q w w:=⟨Nat.le_refl _,fun _ _ h=>⟨rfl,h⟩,fun _ _ _ _ h=>h⟩
theorem ExtQ.refl(q:Nat->Bool)(w:NW):ExtQ q w w:={ Keep.refl q w with os:=rfl,tape:=rfl,output:=rfl,rest:=fun _ _ h k=>⟨rfl,h,k⟩ }
theorem Ext.refl(w:NW)(H:Hp):Ext w H w H:={ ExtQ.refl _ w with base:=rfl }
theorem fU.refl(w:NW)(H:Hp):fU w H w H:={ ExtQ.refl _ w with base:=rfl }
theorem Keep.trans{q:Nat->Bool}{a b c:NW}(h:Keep q a b)(k:Keep q b c):Keep q a c:=
 ⟨Nat.le_trans h.size k.size,fun n hn hO=>⟨(k.free n (Nat.lt_of_lt_of_le hn h.size) (h.free n hn hO).2).1.trans (h.free n hn hO).1,(k.free n (Nat.lt_of_lt_of_le hn h.size) (h.free n hn hO).2).2⟩,fun i m z hq hz=>k.names i m z hq (h.names i m z hq hz)⟩
theorem ExtQ.trans{q:Nat->Bool}{a b c:NW}(h:ExtQ q a b)(k:ExtQ q b c):ExtQ q a c:={ h.toKeep.trans k.toKeep with
 os:=k.os.trans h.os,tape:=k.tape.trans h.tape,output:=k.output.trans h.output
 rest:=fun n hn hO Ur=>by obtain⟨h1,h2,h3⟩:=h.rest n hn hO Ur;obtain⟨k1,k2,k3⟩:=k.rest n (Nat.lt_of_lt_of_le hn h.size) h2 h3;exact⟨k1.trans h1,k2,k3⟩ }
def ExtQ.mono{q p:Nat->Bool}{a b:NW}(h:ExtQ q a b)(hp:∀i,p i=true->q i=true):ExtQ p a b:={ h with names:=fun i m z hq hz=>h.names i m z (hp i hq) hz }
theorem Ext.trans{a b c:NW}{H H' Vx:Hp}(h:Ext a H b H')(k:Ext b H' c Vx):Ext a H c Vx:={ h.toExtQ.trans k.toExtQ with base:=k.base.trans h.base }
theorem fU.trans{a b c:NW}{H H' Vx:Hp}(h:fU a H b H')(k:fU b H' c Vx):fU a H c Vx:={ h.toExtQ.trans (k.toExtQ.mono fun i hi=>by rw[h.base];exact hi)with base:=k.base.trans h.base }
variable{H:Hp}
def Ext.pB{a b:NW}{H':Hp}(h:Ext a H b H'):fU a H b H':={ h.toExtQ.mono fun _ _=>rfl with base:=h.base }
def pK(a:Addr)(n:Nat):(a.add n).block=a.block:=by unfold Addr.add;split<;>rfl
def xF(a:Addr)(i j:Nat):(a.add i).add j=a.add (i+j):=by unfold Addr.add;by_cases hi:i=0<;>by_cases hj:j=0<;>simp[hi,hj,Nat.add_assoc]
def CA(a:Addr):a.add 0=a:=rfl
def jq(b o n:Nat):(⟨b,o,none⟩:Addr).add n=⟨b,o+n,none⟩:=by unfold Addr.add;split<;>simp_all
theorem Keep.bare{q:Nat->Bool}{w w':NW}(k:Keep q w w'):Keep rG w.bare w'.bare:=⟨k.size,k.free,fun i m z _ h=>by cases h⟩
def ax.aX{a:AV}{v:Value}(h:ax w a v):∀{q:Nat->Bool} {w':NW},Keep q w w'->a.all q=true->ax w' a v:=by
 induction h with
 |raw v=>intro q w' _ _;exact .raw v
 |any v=>intro q w' _ _;exact .any v
 |agg cs vs hl _ ih=>intro q w' k ha;simp only[AV.all]at ha;exact .agg cs vs hl fun i a v h1 h2=>ih i a v h1 h2 k (lK ha h1)
 |aQ cs vs hl _ ih=>intro q w' k ha;simp only[AV.all]at ha;exact .aQ cs vs hl fun i a v h1 h2=>ih i a v h1 h2 k (lK ha h1)
 |gG x sz A c hx=>intro q w' _ _;exact .gG x sz A c hx
 |@sl w d x sz css a c vs hn hc hx Uu hb hH D' _ ih=>
  intro q w' k _;have hk:=k.free _ hb hH;refine .sl x sz css a c vs hn hc (fun h=>⟨(hx h).1,by obtain⟨cur,el,hp⟩:=(hx h).2;exact⟨cur,el,hk.1.trans hp⟩⟩) Uu (Nat.lt_of_lt_of_le hb k.size) hk.2 (fun i j hi hj=>?_) fun i j u hi hu=>ih i j u hi hu k.bare (nA u)
  rw[World.cell?_of_block (w:=w.toWorld) (by rw[pK];exact hk.1)];exact D' i j hi hj
 |@ip w cs a vs hb hH D' _ ih=>
  intro q w' k _;have hk:=k.free _ hb hH;refine .ip cs a vs (Nat.lt_of_lt_of_le hb k.size) hk.2 (fun j hj=>?_) fun j u hu=>ih j u hu k.bare (nA u)
  rw[World.cell?_of_block (w:=w.toWorld) (by rw[pK];exact hk.1)];exact D' j hj
 |gd p a v _ hu ih=>intro q w' k ha;exact .gd p a v (fun hp=>ih hp k (by simpa only[AV.all]using ha)) hu
 |dW f cs vs hl _ ih=>intro q w' k ha;simp only[AV.all]at ha;exact .dW f cs vs hl fun i a v h1 h2=>ih i a v h1 h2 k (lK ha h1)
 |pt i m o j b t s h=>intro q w' k ha;exact .pt i m o j b t s (k.names _ _ _ (by simpa only[AV.all]using ha) h)
 |iJ i m sz A h=>intro q w' k ha;exact .iJ i m sz A (k.names _ _ _ (by simpa only[AV.all]using ha) h)
 |rs i m sz n b t c h hc hn hs=>intro q w' k ha;exact .rs i m sz n b t c (k.names _ _ _ (by simpa only[AV.all]using ha) h) hc hn hs
 |rc i m sz n b t h hc hn hs=>intro q w' k ha;exact .rc i m sz n b t (k.names _ _ _ (by simpa only[AV.all]using ha) h) hc hn hs
 |jn i m sz o c A=>intro q w' _ _;exact .jn i m sz o c A
 |rv i m sz o n b t c h hn=>intro q w' k ha;exact .rv i m sz o n b t c (k.names _ _ _ (by simpa only[AV.all]using ha) h) hn
 |mr i b t s h=>intro q w' k ha;exact .mr i b t s (k.names _ _ _ (by simpa only[AV.all]using ha) h)
 |bd f fs vs hl _ ih=>intro q w' k ha;simp only[AV.all]at ha;exact .bd f fs vs hl fun i a v h1 h2=>ih i a v h1 h2 k (lK ha h1)
 |iK t a v _ ih=>intro q w' k ha;exact .iK t a v (ih k (by simpa only[AV.all]using ha))
 |mv m a v _ ih=>intro q w' k ha;exact .mv m a v (ih k (by simpa only[AV.all]using ha))
def ax.ext{w':NW}{H':Hp}(e:Ext w H w' H'){a:AV}{v:Value}(h:ax w a v):ax w' a v:=h.aX e.toKeep (nA a)
theorem bs.ext{w w':NW}{H H':Hp}(e:Ext w H w' H'){F:List AV}{tm:Array Value}(h:bs w F tm):bs w' F tm:=⟨h.1,fun i a v ha hv=>(h.2 i a v ha hv).ext e⟩
theorem bs.aX{q:Nat->Bool}{w w':NW}(k:Keep q w w'){F:List AV}{tm:Array Value}(h:bs w F tm)(hF:aY q F=true):bs w' F tm:=⟨h.1,fun i a v ha hv=>(h.2 i a v ha hv).aX k (lK hF ha)⟩
abbrev eu:Nat->Bool:=fun _=>false
def Keep.lb(w:NW):Keep eu w w.bare:=⟨Nat.le_refl _,fun _ _ h=>⟨rfl,h⟩,fun _ _ _ h _=>by cases h⟩
def Keep.mj(w:NW):Keep rG w.bare w:=⟨Nat.le_refl _,fun _ _ h=>⟨rfl,h⟩,fun _ _ _ _ h=>by cases h⟩
theorem ax.lb{w:NW}{a:AV}{v:Value}(h:ax w a v)(ha:a.all eu=true):ax w.bare a v:=h.aX (Keep.lb w) ha
theorem ax.mj{w:NW}{a:AV}{v:Value}(h:ax w.bare a v):ax w a v:=h.aX (Keep.mj w) (nA a)
variable{i:Nat}
def aJ.lt(h:aJ w H){m b t s:Nat}(hn:w.nm i m=some (.at b t s)):b<w.heap.size:=h.fin b (h.own _ _ _ _ _ hn)
theorem aJ.none{w:NW}{H:Hp}(h:aJ w H){i:Nat}(hi:H.get i=none)(m:Nat):w.nm i m=none:=by
 cases e:w.nm i m with
 |none=>rfl
 |some z=>obtain⟨r,hr,_⟩:=h.di i m z e;rw[hi]at hr;cases hr
def aJ.later(h:aJ w H){m:Nat}(hi:H.get i=some r)(hm:r.fR<m):w.nm i m=Option.none:=by
 cases e:w.nm i m with
 |none=>rfl
 |some z=>obtain⟨s,hs,Uq⟩:=h.di i m z e;rw[hi]at hs;cases hs;omega
theorem gw.ext{w w':NW}{H H':Hp}(e:Ext w H w' H'){r:Row}{z:Rz}(hz:∀b t s,z=.at b t s->w'.heap[b]?=w.heap[b]?)(h:gw w r z):gw w' r z:=by
 cases z with
 |nil=>exact h
 |«at» b t s=> obtain⟨h1,cur,h2,h3,h5⟩:=h;exact⟨h1,cur,(hz b t s rfl).trans h2,h3,fun i a v ha hv=>(h5 i a v ha hv).ext e⟩
@[reducible] def NW.to(w:NW)(W:World):NW:={ w with toWorld:=W }
def NW.name(w:NW)(i m:Nat)(z:Rz):NW:={ w with nm:=fun j n=>if j=i/\n=m then some z else w.nm j n }
def NW.cz(w:NW)(i m:Nat)(z:Rz):(w.name i m z).nm i m=some z:=if_pos ⟨rfl,rfl⟩
def NW.gi(w:NW)(b:Nat):NW:={ w with O:=fun c=>c=b\/w.O c }
def Ext.fm(r:aJ w H)(o:Obj):Ext w H (w.to (w.alloc o)) H:={
 size:=jE
 free:=fun b hb hn=>⟨RowKit.Below.heap_alloc w.toWorld o b hb,hn⟩
 names:=fun _ _ _ _ h=>h
 os:=rfl,tape:=rfl,output:=rfl
 rest:=fun b hb hO Ur=>⟨RowKit.Below.heap_alloc w.toWorld o b hb,hO,Ur⟩
 base:=rfl }
theorem aJ.fm{w:NW}{H:Hp}(r:aJ w H)(o:Obj):aJ (w.to (w.alloc o)) H:={
 rows:=fun i row hi=>by obtain⟨h1,z,h2,h3⟩:=r.rows i row hi;refine⟨h1,z,h2,h3.ext (Ext.fm r o) fun b t s e=>?_⟩;subst e;exact RowKit.Below.heap_alloc w.toWorld o b (r.lt h2)
 di:=r.di,inj:=r.inj,own:=r.own
 cd:=r.cd.aX (Ext.fm r o).toKeep
 fin:=fun b hb=>by have:=r.fin b hb;simp;omega }
theorem Ext.drew(w:NW)(H:Hp):Ext w H (w.to w.drew) H:={ size:=Nat.le_refl _,free:=fun _ _ h=>⟨rfl,h⟩,names:=fun _ _ _ _ h=>h,os:=rfl,tape:=rfl,output:=rfl,rest:=fun _ _ h k=>⟨rfl,h,k⟩,base:=rfl }
theorem aJ.drew{w:NW}{H:Hp}(r:aJ w H):aJ (w.to w.drew) H:={
 rows:=fun i row hi=>by obtain⟨h1,z,h2,h3⟩:=r.rows i row hi;exact⟨h1,z,h2,h3.ext (Ext.drew w H) fun b t s e=>rfl⟩
 di:=r.di,inj:=r.inj,own:=r.own,fin:=r.fin,cd:=r.cd.aX (Ext.drew w H).toKeep }
def v6(r:aJ w H){row:Row}(Yq:w.nm i row.fR=none)(Xp:∀r',H.get i=some r'->r'.fR<=row.fR)(hok:row.ok)(cur:Array Value)(Uq:row.fit cur.size cur.size)
  (hc:∀(k:Nat) a v,row.cells[k]?=some a->cur[k]?=some v->ax w a v) :
  aJ (((w.to (w.alloc (row.obj cur))).gi w.heap.size).name i row.fR (.at w.heap.size cur.size row.bB)) (H.put i row)/\
  Ext w H (((w.to (w.alloc (row.obj cur))).gi w.heap.size).name i row.fR (.at w.heap.size cur.size row.bB)) (H.put i row):=by
 have ex:Ext w H (((w.to (w.alloc (row.obj cur))).gi w.heap.size).name i row.fR (.at w.heap.size cur.size row.bB)) (H.put i row):={
  size:=by show w.heap.size<=(w.alloc _).heap.size;simp
  free:=fun b hb hn=>⟨RowKit.Below.heap_alloc w.toWorld _ b hb,fun h=>by
   rcases h with h|h
   ·omega
   ·exact hn h⟩
  names:=fun j n z _ h=>by
   show(if j=i/\n=row.fR then _ else _)=_;rw[if_neg]
   ·exact h
   ·rintro⟨rfl,rfl⟩;rw[Yq]at h;cases h
  os:=rfl,tape:=rfl,output:=rfl
  rest:=fun b hb hO Ur=>⟨RowKit.Below.heap_alloc w.toWorld _ b hb,.inr hO,fun j n t s h=>by
   have h:(if j=i/\n=row.fR then some (Rz.at w.heap.size cur.size row.bB)else w.nm j n)=some (.at b t s):=h;split at h
   ·cases h;omega
   ·exact Ur _ _ _ _ h⟩
  base:=rfl }
 have Vn:∀j n,(((w.to (w.alloc (row.obj cur))).gi w.heap.size).name i row.fR (.at w.heap.size cur.size row.bB)).nm j n=if j=i/\n=row.fR then some (Rz.at w.heap.size cur.size row.bB)else w.nm j n:=fun _ _=>rfl
 refine⟨{ rows:=fun j s hj=>?_,di:=fun j n z hz=>?_,inj:=fun j n j' n' b t s t' s' h1 h2=>?_,own:=fun j n b t s h=>?_,fin:=fun b hb=>?_,cd:=r.cd.aX ex.toKeep },ex⟩
 ·rw[Hp.bk]at hj;split at hj
  ·rename_i e;subst e;cases hj;refine⟨hok,.at w.heap.size cur.size row.bB,by rw[Vn,if_pos ⟨rfl,rfl⟩],rfl,cur,heap_alloc_new w.toWorld _,Uq,fun k a v ha hv=>(hc k a v ha hv).ext ex⟩
  ·rename_i e;obtain⟨h1,z,h2,h3⟩:=r.rows j s hj;refine⟨h1,z,by rw[Vn,if_neg (fun h=>e h.1)];exact h2,h3.ext ex fun b t s e=>?_⟩;subst e;exact RowKit.Below.heap_alloc w.toWorld _ b (r.lt h2)
 ·rw[Vn]at hz;rw[Hp.bk];split at hz
  ·rename_i e;exact⟨row,by rw[if_pos e.1],by rw[e.2];exact Nat.le_refl _⟩
  ·obtain⟨r',h1,h2⟩:=r.di j n z hz;by_cases e:j=i
   ·subst e;exact⟨row,by rw[if_pos rfl],Nat.le_trans h2 (Xp r' h1)⟩
   ·exact⟨r',by rw[if_neg e];exact h1,h2⟩
 ·rw[Vn]at h1 h2;split at h1<;>split at h2
  ·rename_i e1 e2;rw[e1.1,e2.1]
  ·cases h1;have:=r.lt h2;omega
  ·cases h2;have:=r.lt h1;omega
  ·exact r.inj _ _ _ _ _ _ _ _ _ h1 h2
 ·rw[Vn]at h;split at h
  ·cases h;exact .inl rfl
  ·exact .inr (r.own _ _ _ _ _ h)
 ·show b<(w.alloc _).heap.size;rcases hb with h|h
  ·subst h;simp
  ·have:=r.fin b h;simp;omega
def Gp{W:World}(r:aJ w H){row row':Row}{b t:Nat}(hi:H.get i=some row)(hn:w.nm i row.fR=some (.at b t row.bB))(hs:row'.bB=row.bB)(hv:row.fR<=row'.fR)(hok:row'.ok)
  (h1:W.os=w.os) (h2:W.tape=w.tape) (h3:W.output=w.output) (Uu:W.heap.size=w.heap.size) (hk:∀c,c≠b->W.heap[c]?=w.heap[c]?) (cur:Array Value) (XW:W.heap[b]?=some (row'.obj cur)) (V6:row'.fit cur.size t)
  (hc:∀(k:Nat) a v,row'.cells[k]?=some a->cur[k]?=some v->ax w a v) :
  aJ ((w.to W).name i row'.fR (.at b t row.bB)) (H.put i row')/\Ext w H ((w.to W).name i row'.fR (.at b t row.bB)) (H.put i row'):=by
 have hO:=r.own _ _ _ _ _ hn;have ex:Ext w H ((w.to W).name i row'.fR (.at b t row.bB)) (H.put i row'):={
  size:=by show w.heap.size<=W.heap.size;omega
  free:=fun c hc hO'=>⟨hk c (fun e=>hO' (e ▸ hO)),hO'⟩
  names:=fun j n z _ h=>by
   show(if j=i/\n=row'.fR then _ else _)=_;split
   ·rename_i e;obtain⟨rfl,rfl⟩:=e;obtain⟨r',g1,g2⟩:=r.di _ _ _ h;rw[hi]at g1;cases g1;have:row.fR=row'.fR:=jB;rw[<-this,hn]at h;exact h
   ·exact h
  os:=h1,tape:=h2,output:=h3
  rest:=fun c hc hO' Ur=>⟨hk c (fun e=>Ur _ _ _ _ (e ▸ hn)),hO',fun j n t' s h=>by
   have h:(if j=i/\n=row'.fR then some (Rz.at b t row.bB)else w.nm j n)=some (.at c t' s):=h;split at h
   ·cases h;exact Ur _ _ _ _ hn
   ·exact Ur _ _ _ _ h⟩
  base:=rfl }
 have Vn:∀j n,((w.to W).name i row'.fR (.at b t row.bB)).nm j n=if j=i/\n=row'.fR then some (Rz.at b t row.bB)else w.nm j n:=fun _ _=>rfl
 refine⟨{ rows:=fun j s hj=>?_,di:=fun j n z hz=>?_,inj:=fun j n j' n' b' t1 s t' s' g1 g2=>?_,own:=fun j n b' t' s h=>?_,fin:=fun c hb=>?_,cd:=r.cd.aX ex.toKeep },ex⟩
 ·rw[Hp.bk]at hj;split at hj
  ·rename_i e;subst e;cases hj;exact⟨hok,.at b t row.bB,by rw[Vn,if_pos ⟨rfl,rfl⟩],hs.symm,cur,XW,V6,fun k a v ha hv=>(hc k a v ha hv).ext ex⟩
  ·rename_i e;obtain⟨g1,z,g2,g3⟩:=r.rows j s hj;refine⟨g1,z,by rw[Vn,if_neg (fun h=>e h.1)];exact g2,g3.ext ex fun c t' s' e'=>?_⟩;subst e';exact hk c fun e'=>by subst e';exact e (r.inj _ _ _ _ _ _ _ _ _ g2 hn)
 ·rw[Vn]at hz;rw[Hp.bk];split at hz
  ·rename_i e;exact⟨row',by rw[if_pos e.1],by rw[e.2];exact Nat.le_refl _⟩
  ·obtain⟨r',g1,g2⟩:=r.di j n z hz;by_cases e:j=i
   ·subst e;rw[hi]at g1;cases g1;exact⟨row',by rw[if_pos rfl],Nat.le_trans g2 hv⟩
   ·exact⟨r',by rw[if_neg e];exact g1,g2⟩
 ·rw[Vn]at g1 g2;split at g1<;>split at g2
  ·rename_i e1 e2;rw[e1.1,e2.1]
  ·rename_i e1 _;cases g1;rw[e1.1];exact r.inj _ _ _ _ _ _ _ _ _ hn g2
  ·rename_i _ e2;cases g2;rw[e2.1];exact r.inj _ _ _ _ _ _ _ _ _ g1 hn
  ·exact r.inj _ _ _ _ _ _ _ _ _ g1 g2
 ·rw[Vn]at h;split at h
  ·cases h;exact hO
  ·exact r.own _ _ _ _ _ h
 ·show c<W.heap.size;have:=r.fin c hb;omega
variable{sz:Nat}
def xy(r:aJ w H)(hi:H.get i=none)(e:TypeId)(Uu:0<sz):aJ (w.name i 0 .nil) (H.put i (.aG e sz []))/\Ext w H (w.name i 0 .nil) (H.put i (.aG e sz [])):=by
 have haf:=r.none hi;have Vn:∀j n,(w.name i 0 .nil).nm j n=if j=i/\n=0 then some Rz.nil else w.nm j n:=fun _ _=>rfl
 have ex:Ext w H (w.name i 0 .nil) (H.put i (.aG e sz [])):={
  size:=Nat.le_refl _,free:=fun _ _ h=>⟨rfl,h⟩
  names:=fun j n z _ h=>by
   rw[Vn,if_neg]
   ·exact h
   ·rintro⟨rfl,rfl⟩;rw[haf]at h;cases h
  os:=rfl,tape:=rfl,output:=rfl
  rest:=fun b hb hO Ur=>⟨rfl,hO,fun j n t s h=>by
   rw[Vn]at h;split at h
   ·cases h
   ·exact Ur _ _ _ _ h⟩
  base:=rfl }
 refine⟨{ rows:=fun j s hj=>?_,di:=fun j n z hz=>?_,inj:=fun j n j' n' b t s t' s' h1 h2=>?_,own:=fun j n b t s h=>?_,fin:=r.fin,cd:=r.cd.aX ex.toKeep },ex⟩
 ·rw[Hp.bk]at hj;split at hj
  ·rename_i e';subst e';cases hj;exact⟨⟨Uu,fun _ h=>by simp at h⟩,.nil,by rw[Vn];exact if_pos ⟨rfl,rfl⟩,e,sz,rfl⟩
  ·rename_i e';obtain⟨h1,z,h2,h3⟩:=r.rows j s hj;exact⟨h1,z,by rw[Vn,if_neg (fun h=>e' h.1)];exact h2,h3.ext ex fun b t s _=>rfl⟩
 ·rw[Vn]at hz;rw[Hp.bk];split at hz
  ·rename_i e';exact⟨_,by rw[if_pos e'.1],by rw[e'.2];exact Nat.zero_le _⟩
  ·obtain⟨r',h1,h2⟩:=r.di j n z hz;have e':j≠i:=fun e'=>by subst e';rw[hi]at h1;cases h1
   exact⟨r',by rw[if_neg e'];exact h1,h2⟩
 ·rw[Vn]at h1 h2;split at h1
  ·cases h1
  ·split at h2
   ·cases h2
   ·exact r.inj _ _ _ _ _ _ _ _ _ h1 h2
 ·rw[Vn]at h;split at h
  ·cases h
  ·exact r.own _ _ _ _ _ h
def Ie(i:Nat):Nat->Bool:=fun j=>!(j == i)
def Ht(i:Nat):List (Nat×Row)->Bool
 |[]=>true
 |(j,r)::l=>(j == i || aY (Ie i) r.cells) && Ht i l
-- abstract j3
def cr(F:List AV):Operand->AV
 |.tmp t=>F.getD t .any
 |.const v=>.raw v
 |.global g=>.raw (.pointer (some ⟨g,0,none⟩))
 |.func f=>.raw (.func (.func f) #[] #[])
def cO(F:List AV)(d:Option Tmp)(a:AV):List AV:=match d with
 |some d=>F.set d a
 |none=>F
theorem bs.eval{w:NW}{F:List AV}{tm:Array Value}(h:bs w F tm)(ds:List Deferred)(x:Operand):ax w (cr F x) ((Act.mk tm ds).eval x):=by
 cases x with
 |tmp t=>
  simp only[cr,Act.eval];by_cases ht:t<F.length
  ·have XX:t<tm.size:=by rw[<-h.1];exact ht
   have h1:F[t]?=some (F.getD t .any):=by simp[ht]
   have h2:tm[t]?=some (tm.getD t undef):=by simp[XX]
   exact h.2 t _ _ h1 h2
  ·have:F.getD t .any=.any:=by simp[List.getElem?_eq_none (Nat.le_of_not_lt ht)]
   rw[this];exact .any _
 |const v=>exact .raw v
 |global g=>exact .raw _
 |func f=>exact .raw _
theorem bs.put{w:NW}{F:List AV}{tm:Array Value}(h:bs w F tm)(d:Option Tmp){a:AV}{v:Value}(hv:ax w a v)(ds:List Deferred):bs w (cO F d a) ((Act.mk tm ds).put d v).tmps:=by
 cases d with
 |none=>exact h
 |some d=>
  refine⟨by simp[cO,Act.put,h.1],fun i a' v' ha U3=>?_⟩;simp only[cO,Act.put]at ha U3;rw[List.getElem?_set]at ha;rw[Array.getElem?_setIfInBounds]at U3;by_cases hd:d=i
  ·subst hd;simp only[if_true]at ha U3;split at ha<;>split at U3<;>simp_all
  ·simp only[if_neg hd]at ha U3;exact h.2 i a' v' ha U3
def Act.put_eq(tm:Array Value)(ds:List Deferred)(d:Option Tmp)(v:Value):(Act.mk tm ds).put d v=⟨((Act.mk tm ds).put d v).tmps,ds⟩:=by cases d<;>rfl
def gX(Q:Exit->List AV->Hp->Prop)(w:NW)(H:Hp):Exit->Act->World->Prop:=fun e a W=> ∃tm F' H' w',W=w'.toWorld/\a=⟨tm,[]⟩/\Q e F' H'/\aJ w' H'/\bs w' F' tm/\fU w H w' H'
def dI(P:Program)(c:Code)(Q:Exit->List AV->Hp->Prop)(F:List AV)(H:Hp):Prop:=
 ∀(w:NW) tm,aJ w H->bs w F tm->Code.wp P c (gX Q w H) ⟨tm,[]⟩ w.toWorld
def dV(F:List AV)(H:Hp)(F':List AV)(H':Hp):Prop:=∀(w:NW) tm,aJ w H->bs w F tm->∃w':NW,w'.toWorld=w.toWorld/\aJ w' H'/\bs w' F' tm/\fU w H w' H'
theorem dV.trans{F F' F'':List AV}{H H' Vx:Hp}(h:dV F H F' H')(k:dV F' H' F'' Vx):dV F H F'' Vx:=fun w tm h1 h2=>by obtain⟨w',e,a,b,c⟩:=h w tm h1 h2;obtain⟨w'',e',a',b',c'⟩:=k w' tm a b;exact⟨w'',e'.trans e,a',b',c.trans c'⟩
def lj:List AV->List AV->Prop
 |[],[]=>True
 |a::l,b::m=>(b=.any\/a=b)/\lj l m
 |_,_=>False
theorem lj.get:∀{l m:List AV},lj l m->l.length=m.length/\∀(i:Nat) a b,l[i]?=some a->m[i]?=some b->b=.any\/a=b
 |[],[],_=>⟨rfl,fun i a b h=>by simp at h⟩
 |x::l,y::m,h=>by
  have ih:=lj.get h.2;refine⟨by simp[ih.1],fun i a b ha hb=>?_⟩;cases i with
  |zero=>simp at ha hb;subst ha hb;exact h.1
  |succ i=>exact ih.2 i a b (by simpa using ha) (by simpa using hb)
def dV.pt{F F':List AV}(H:Hp)(h:lj F F'):dV F H F' H:=fun w tm h1 h2=>by
 obtain⟨hl,hg⟩:=h.get;refine⟨w,rfl,h1,⟨hl.symm.trans h2.1,fun i a v ha hv=>?_⟩,fU.refl w H⟩;have hi:i<F.length:=by rw[hl];exact(List.getElem?_eq_some_iff.1 ha).1
 rcases hg i F[i] a (List.getElem?_eq_getElem hi) ha with rfl|he
 ·exact .any v
 ·exact he ▸ h2.2 i _ v (List.getElem?_eq_getElem hi) hv
def Eg(lo n:Nat)(F:List AV):List AV:=F.take lo++List.replicate n .any++F.drop (lo+n)
def nn(W:List (Nat×Nat))(F:List AV):List AV:=W.foldl (fun F d=>Eg d.1 d.2 F) F
section
variable {P:Program}{Q Q':Exit->List AV->Hp->Prop}{F:List AV}{H:Hp}
def gX.p4{w w':NW}{H H':Hp}(e:fU w H w' H'){x:Exit}{a:Act}{w'':World}(h:gX Q w' H' x a w''):gX Q w H x a w'':=by obtain⟨tm,F',Vx,n,h0,h1,h2,h3,h4,h5⟩:=h;exact⟨tm,F',Vx,n,h0,h1,h2,h3,h4,e.trans h5⟩
def jw{c:Code}{F':List AV}{H':Hp}(hl:dV F H F' H')(h:dI P c Q F' H'):dI P c Q F H:=fun w tm h1 h2=>by obtain⟨w',e0,a,b,e⟩:=hl w tm h1 h2;rw[<-e0];exact wp_mono (h w' tm a b) fun _ _ _ hp=>hp.p4 e
def uG(next:List AV->Hp->Prop)(Q:Exit->List AV->Hp->Prop):Exit->List AV->Hp->Prop
 |.normal,F,H=>next F H
 |e,F,H=>Q e F H
def su(id:Nat)(Q:Exit->List AV->Hp->Prop):Exit->List AV->Hp->Prop
 |.exit id',F,H=>if id'=id then Q .normal F H else Q (.exit id') F H
 |e,F,H=>Q e F H
variable{x y:Code}
def KQ(h:dI P x (uG (dI P y Q) Q) F H):dI P (.seq x y) Q F H:=fun w tm h1 h2=>by
 refine wp_seq (wp_mono (h w tm h1 h2) ?_);rintro e a W ⟨Vk,F',H',w',rfl,rfl,hq,h3,h4,h5⟩;cases e with
 |normal=>exact wp_mono (hq w' Vk h3 h4) fun _ _ _ hp=>hp.p4 h5
 |exit id=>exact⟨Vk,F',H',w',rfl,rfl,hq,h3,h4,h5⟩
 |goto l=>exact⟨Vk,F',H',w',rfl,rfl,hq,h3,h4,h5⟩
 |ret=>exact⟨Vk,F',H',w',rfl,rfl,hq,h3,h4,h5⟩
 |panic ch=>exact⟨Vk,F',H',w',rfl,rfl,hq,h3,h4,h5⟩
 |outgrown=>exact⟨Vk,F',H',w',rfl,rfl,hq,h3,h4,h5⟩
def av(h:∀K:List AV->Hp->Prop,(∀F H,dI P y Q F H->K F H)->dI P x (uG K Q) F H):dI P (.seq x y) Q F H:=KQ (h _ fun _ _ h=>h)
def CD{c:Code}{e:Exit}(hc:∀(R:Exit->Act->World->Prop) a w,R e a w->Code.wp P c R a w)(h:Q e F H):dI P c Q F H:=fun w tm h1 h2=>hc _ _ _ ⟨tm,F,H,w,rfl,rfl,h,h1,h2,fU.refl w H⟩
def LS(h:Q .normal F H):dI P .skip Q F H:=CD (fun _ _ _ h=>wp_skip h) h
def PE{id:Nat}(h:Q (.exit id) F H):dI P (.exit id) Q F H:=CD (fun _ _ _ h=>wp_exit h) h
def RX(h:Q .ret F H):dI P .ret Q F H:=CD (fun _ _ _ h=>wp_ret h) h
def OP{c:Operand}{b:Bool}(hc:cr F c=.raw (.bool b))(ht:b=true->dI P x Q F H)(hf:b=false->dI P y Q F H):dI P (.cond c x y) Q F H:=fun w tm h1 h2=>by have he:=h2.eval [] c;rw[hc]at he;generalize hv:(Act.mk tm []).eval c=v at he;cases he;exact wp_cond_split hv (fun h=>ht h w tm h1 h2) (fun h=>hf h w tm h1 h2)
def KJ{id:Nat}{c:Code}(h:dI P c (su id Q) F H):dI P (.block id c) Q F H:=fun w tm h1 h2=>by
 refine wp_block (wp_mono (h w tm h1 h2) ?_);rintro e a W ⟨Vk,F',H',w',rfl,rfl,hq,h3,h4,h5⟩;cases e with
 |normal=>exact⟨Vk,F',H',w',rfl,rfl,hq,h3,h4,h5⟩
 |exit id'=>
  simp only[su]at hq;simp only[Exit.inBlock];split<;>rename_i hid
  ·rw[if_pos hid]at hq;exact⟨Vk,F',H',w',rfl,rfl,hq,h3,h4,h5⟩
  ·rw[if_neg hid]at hq;exact⟨Vk,F',H',w',rfl,rfl,hq,h3,h4,h5⟩
 |goto l=>exact⟨Vk,F',H',w',rfl,rfl,hq,h3,h4,h5⟩
 |ret=>exact⟨Vk,F',H',w',rfl,rfl,hq,h3,h4,h5⟩
 |panic ch=>exact⟨Vk,F',H',w',rfl,rfl,hq,h3,h4,h5⟩
 |outgrown=>exact⟨Vk,F',H',w',rfl,rfl,hq,h3,h4,h5⟩
def LC{S:Type}{c:Code}(I:S->List AV->Hp->Prop)(μ:S->Nat)(s₀:S){F₀:List AV}{H₀:Hp}(Uq:dV F H F₀ H₀)(h₀:I s₀ F₀ H₀)
  (round:∀s F H,I s F H->dI P c (uG (fun F' H'=>∃s' F'' Vx,μ s'<μ s/\dV F' H' F'' Vx/\I s' F'' Vx) Q) F H):dI P (.loop c) Q F H:=fun w tm h1 h2=>by
 obtain⟨w0,ew,h1,h2,e0⟩:=Uq w tm h1 h2;rw[<-ew];refine wp_loop_ghost (fun n a W=>∃s F' H' Vk w',μ s=n/\I s F' H'/\W=NW.toWorld w'/\a=⟨Vk,[]⟩/\aJ w' H'/\bs w' F' Vk/\fU w H w' H') (μ s₀) ⟨s₀,F₀,H₀,tm,w0,rfl,h₀,rfl,rfl,h1,h2,e0⟩ ?_;rintro n a W ⟨s,F',H',Vk,w',rfl,hI,rfl,rfl,h3,h4,h5⟩;refine wp_mono (round s F' H' hI w' Vk h3 h4) ?_;rintro e a W ⟨tm'',F'',Vx,w'',rfl,rfl,hq,h6,h7,h8⟩;cases e with
 |normal=> obtain⟨s',F3,H3,O',hl,hI'⟩:=hq;obtain⟨w3,ew3,g1,g2,g3⟩:=hl w'' tm'' h6 h7;exact⟨μ s',O',s',F3,H3,tm'',w3,rfl,hI',ew3.symm,rfl,g1,g2,(h5.trans h8).trans g3⟩
 |exit id=>exact⟨tm'',F'',Vx,w'',rfl,rfl,hq,h6,h7,h5.trans h8⟩
 |goto l=>exact⟨tm'',F'',Vx,w'',rfl,rfl,hq,h6,h7,h5.trans h8⟩
 |ret=>exact⟨tm'',F'',Vx,w'',rfl,rfl,hq,h6,h7,h5.trans h8⟩
 |panic ch=>exact⟨tm'',F'',Vx,w'',rfl,rfl,hq,h6,h7,h5.trans h8⟩
 |outgrown=>exact⟨tm'',F'',Vx,w'',rfl,rfl,hq,h6,h7,h5.trans h8⟩
end
-- regions
def tH(P:Program)(ops:Array Oper)(Q:Exit->Act->World->Prop)(o:Oper)(next:Act->World->Prop)(a:Act)(w:World):Prop:=
 if Region.wanted o (yielded ops a.tmps)then o.wp P a w next Q\/(o.asks P a w/\LetsOut Q)else next (a.put o.dst undef) w
def mR(P:Program)(ops:Array Oper)(o:Oper)(F:List AV)(H:Hp)(K:List AV->Hp->Prop):Prop:=
 ∀(w:NW) tm (Q:Exit->Act->World->Prop) (next:Act->World->Prop),aJ w H->bs w F tm->
  (∀Vk (w':NW) F' H',K F' H'->aJ w' H'->bs w' F' Vk->Ext w H w' H'->next ⟨Vk,[]⟩ w'.toWorld)->tH P ops Q o next ⟨tm,[]⟩ w.toWorld
def vg(P:Program)(ops:Array Oper)(K:List AV->Hp->Prop)(l:List Oper)(F:List AV)(H:Hp):Prop:=
 ∀(w:NW) tm (Q:Exit->Act->World->Prop),aJ w H->bs w F tm->
  (∀Vk (w':NW) F' H',K F' H'->aJ w' H'->bs w' F' Vk->Ext w H w' H'->Q .normal ⟨Vk,[]⟩ w'.toWorld)->wpList P ops Q l ⟨tm,[]⟩ w.toWorld
section
variable {P:Program}{ops:Array Oper}{F:List AV}{H:Hp}{K:List AV->Hp->Prop}
variable{o:Oper}
def mR.mono{K':List AV->Hp->Prop}(h:mR P ops o F H K)(hk:∀F H,K F H->K' F H):mR P ops o F H K':=
 fun w tm Q next h1 h2 hn=>h w tm Q next h1 h2 fun Vk w' F' H' k=>hn Vk w' F' H' (hk _ _ k)
def D4(h:K F H):vg P ops K [] F H:=fun w tm Q h1 h2 hq=>hq tm w F H h h1 h2 (Ext.refl w H)
def IL{rest:List Oper}(h:mR P ops o F H (vg P ops K rest)):vg P ops K (o::rest) F H:=fun w tm Q h1 h2 hq=>by
 have:=h w tm Q (wpList P ops Q rest) h1 h2 fun Vk w' F' H' k g1 g2 g3=>k w' Vk Q g1 g2 fun tm'' w'' F'' Vx k' g4 g5 g6=>hq tm'' w'' F'' Vx k' g4 g5 (g3.trans g6)
 simpa only[tH,wpList]using this
def HP{id:Nat}{Q:Exit->List AV->Hp->Prop}(h:vg P ops (Q .normal) ops.toList F H):dI P (.region id ops false) Q F H:=fun w tm h1 h2=> wp_region_list (h w tm (gX Q w H) h1 h2 fun Vk w' F' H' k g1 g2 g3=>⟨Vk,F',H',w',rfl,rfl,k,g1,g2,g3.pB⟩)
def Df(P:Program)(o:Oper)(F:List AV)(H:Hp)(K:AV->Hp->Prop):Prop:=
 ∀(w:NW) tm,aJ w H->bs w F tm->∃(w':NW) (H':Hp) (r:AV),K r H'/\aJ w' H'/\Ext w H w' H'/\
  ((∃v,(execOp (Act.mk tm []).eval o).run P w.toWorld=.ok (.value v) w'.toWorld/\ax w' r v)\/((execOp (Act.mk tm []).eval o).run P w.toWorld=.ok .skip w'.toWorld/\r=.any))
def KI(h:Df P o F H (fun r H'=>K (cO F o.dst r) H')){w:NW}{tm:Array Value}{Q:Exit->Act->World->Prop}{next:Act->World->Prop}(h1:aJ w H)(h2:bs w F tm)
  (hn:∀Vk (w':NW) F' H',K F' H'->aJ w' H'->bs w' F' Vk->Ext w H w' H'->next ⟨Vk,[]⟩ w'.toWorld):o.wp P ⟨tm,[]⟩ w.toWorld next Q:=by
 obtain⟨w',H',r,hk,g1,g2,g3⟩:=h w tm h1 h2;rcases g3 with⟨v,hr,hv⟩|⟨hr,rfl⟩
 ·simp only[Oper.wp,hr,Oper.upon];rw[Act.put_eq];exact hn _ w' _ H' hk g1 ((h2.ext g2).put o.dst hv []) g2
 ·simp only[Oper.wp,hr,Oper.upon];rw[Act.put_eq];exact hn _ w' _ H' hk g1 ((h2.ext g2).put o.dst (.any _) []) g2
def Sf(hg:o.guard=none)(h:Df P o F H (fun r H'=>K (cO F o.dst r) H')):mR P ops o F H K:=fun w tm Q next h1 h2 hn=>by unfold tH;rw[if_pos (by simp[Region.wanted,hg])];exact .inl (KI h h1 h2 hn)
end
-- calls
def ids(l:List (Nat×Row)):List Nat:=l.map (·.1)
def entry(l:List (Nat×Row)):Hp:=⟨ids l,l⟩
def ab(P:Program)(f:FuncId)(args:List AV)(l:List (Nat×Row))(R:AV->List (Nat×Row)->Prop):Prop:=
 ∀(w:NW) vs,aJ w (entry l)->bs w args vs->Calls P f vs w.toWorld fun e W=>∃v r H' w',W=NW.toWorld w'/\e=.returned v/\R r (Hp.l H')/\aJ w' H'/\ax w' r v/\fU w (entry l) w' H'
theorem ab.mono{P:Program}{f:FuncId}{args:List AV}{l:List (Nat×Row)}{R R':AV->List (Nat×Row)->Prop}(h:ab P f args l R)(hr:∀r l',R r l'->R' r l'):ab P f args l R':=
 fun w vs h1 h2=>(h w vs h1 h2).mono fun _ _ ⟨v,r,H',w',e0,e,k,g⟩=>⟨v,r,H',w',e0,e,hr _ _ k,g⟩
def iD(r:AV)(H:Hp)(r':AV)(H':Hp):Prop:=∀(w:NW) v,aJ w H->ax w r v->∃w':NW,w'.toWorld=w.toWorld/\aJ w' H'/\ax w' r' v/\fU w H w' H'
theorem iD.refl(r:AV)(H:Hp):iD r H r H:=fun w _ h1 h2=>⟨w,rfl,h1,h2,fU.refl w H⟩
theorem iD.trans{a b c:AV}{H H' Vx:Hp}(h:iD a H b H')(k:iD b H' c Vx):iD a H c Vx:=fun w v h1 h2=>by obtain⟨w',e,x,y,z⟩:=h w v h1 h2;obtain⟨w'',e',x',y',z'⟩:=k w' v x y;exact⟨w'',e'.trans e,x',y',z.trans z'⟩
def iD.of_eq{r r':AV}(H:Hp)(h:r=r'):iD r H r' H:=h ▸ iD.refl r H
-- a call, where more is owned than the function is ZC
def gF(l:List (Nat×Row)):List (Nat×Row)->List (Nat×Row)
 |[]=>l
 |(i,r)::m=>gF (bj l i r) m
def NW.only(w:NW)(L:List Nat):NW:={ w with nm:=fun i m=>if L.contains i=true then w.nm i m else none }
theorem tn:∀{l:List (Nat×Row)} {i:Nat} {r:Row},aA l i=some r->(ids l).contains i=true
 |[],_,_,h=>by cases h
 |(j,s)::l,i,r,h=>by
  simp only[aA]at h;simp only[ids,List.map_cons,List.contains_cons,Bool.or_eq_true,beq_iff_eq];split at h
  ·rename_i e;exact .inl e
  ·exact .inr (tn (l:=l) h)
theorem yr:∀{l:List (Nat×Row)} {i:Nat},(ids l).contains i=true->∃r,aA l i=some r
 |[],_,h=>by simp[ids]at h
 |(j,s)::l,i,h=>by
  simp only[ids,List.map_cons,List.contains_cons,Bool.or_eq_true,beq_iff_eq]at h;simp only[aA];split
  ·exact⟨s,rfl⟩
  ·rename_i e;exact yr (h.resolve_left e)
theorem uf:∀(m l:List (Nat×Row)) (i:Nat),(∀j r,aA m j=some r->True)->(ids m).Nodup->aA (gF l m) i=(aA m i).or (aA l i)
 |[],l,i,_,_=>by simp[gF,aA]
 |(j,s)::m,l,i,h,hn=>by
  simp only[ids,List.map_cons,List.nodup_cons]at hn;simp only[gF];rw[uf m _ i (fun _ _ _=>trivial) hn.2,bP];simp only[aA];by_cases e:i=j
  ·subst e;have:aA m i=none:=by
    cases e':aA m i with
    |none=>rfl
    |some r=>exact(hn.1 (by have:=tn e';simpa[ids]using this)).elim
   simp[this]
  ·simp[e]
def y0{P:Program}{f:FuncId}{args:List AV}{l:List (Nat×Row)}{R:AV->List (Nat×Row)->Prop}{K:AV->Hp->Prop}(hc:ab P f args l R)(Ve:∀i r,aA l i=some r->H.get i=some r)(VT:aY (fun i=>(ids l).contains i) args=true)
  (hah:∀i r,aA l i=some r->aY (fun i=>(ids l).contains i) r.cells=true)
  (hk:∀r l',R r l'->(∀i s,aA l' i=some s->(ids l).contains i=true\/H.get i=none)/\(ids l').Nodup/\K r ⟨H.B,gF H.l l'⟩) {w:NW} {vs:Array Value} (h1:aJ w H) (h2:bs w args vs) :
  Calls P f vs w.toWorld fun e W=>∃v r H' w',W=NW.toWorld w'/\e=.returned v/\K r H'/\aJ w' H'/\ax w' r v/\Ext w H w' H':=by
 have nmO:∀i m,(w.only (ids l)).nm i m=if(ids l).contains i=true then w.nm i m else none:=fun _ _=>rfl
 have kO:Keep (fun i=>(ids l).contains i) w (w.only (ids l)):=⟨Nat.le_refl _,fun _ _ h=>⟨rfl,h⟩,fun i m z hq h=>by rw[nmO,if_pos hq];exact h⟩;have hw1:aJ (w.only (ids l)) (entry l):=by
  refine{ rows:=fun i r hi=>?_,di:=fun i m z hz=>?_,inj:=fun i m j n b t s t' s' g1 g2=>?_,own:=fun i m b t s h=>?_,fin:=h1.fin,cd:=h1.cd.aX kO }
  ·obtain⟨g1,z,g2,g3⟩:=h1.rows i r (Ve i r hi);refine⟨g1,z,by rw[nmO,if_pos (tn (l:=l) hi)];exact g2,?_⟩;cases z with
   |nil=>exact g3
   |«at» b t s=> obtain⟨e1,cur,e2,e3,e5⟩:=g3;exact⟨e1,cur,e2,e3,fun k a v ha hv=>(e5 k a v ha hv).aX kO (lK (hah i r hi) ha)⟩
  ·rw[nmO]at hz;split at hz
   ·rename_i hi;obtain⟨r,hr⟩:=yr hi;obtain⟨r',e1,e2⟩:=h1.di i m z hz;rw[Ve i r hr]at e1;cases e1;exact⟨r,hr,e2⟩
   ·cases hz
  ·rw[nmO]at g1 g2;split at g1<;>split at g2
   ·exact h1.inj _ _ _ _ _ _ _ _ _ g1 g2
   ·cases g2
   ·cases g1
   ·cases g1
  ·rw[nmO]at h;split at h
   ·exact h1.own _ _ _ _ _ h
   ·cases h
 refine(hc (w.only (ids l)) vs hw1 (h2.aX kO VT)).mono ?_;rintro e W ⟨v,r,H',w',rfl,rfl,hR,g1,g2,g3⟩;obtain⟨k1,k2,k3⟩:=hk r H'.l hR;have Xq:∀i,(ids l).contains i=true->∀m z,w.nm i m=some z->w'.nm i m=some z:=fun i hi m z hz=>g3.names i m z hi (by rw[nmO,if_pos hi];exact hz)
 -- who is the callee's, then
 let cq:Nat->Prop:=fun i=>(ids l).contains i=true\/∃s,aA H'.l i=some s
 have hcq:∀i,¬cq i->(ids l).contains i=false/\aA H'.l i=none:=fun i h=>⟨by cases e:(ids l).contains i with|true=>exact(h (.inl e)).elim|false=>rfl,by cases e:aA H'.l i with|none=>rfl|some s=>exact(h (.inr ⟨s,e⟩)).elim⟩
 classical
 let w2:NW:={ w' with nm:=fun i m=>if cq i then w'.nm i m else w.nm i m }
 have nm2:∀i m,w2.nm i m=if cq i then w'.nm i m else w.nm i m:=fun _ _=>rfl
 -- the caller's other things
 have WW:∀i m b t s,¬cq i->w.nm i m=some (.at b t s)->w'.heap[b]?=w.heap[b]?/\w'.O b/\∀i m t s,w'.nm i m≠some (.at b t s):=fun i m b t s hi hn=>by
  have Ur:∀i' m' t' s',(w.only (ids l)).nm i' m'≠some (.at b t' s'):=fun i' m' t' s' h=>by
   rw[nmO]at h;split at h
   ·rename_i VM;have:=h1.inj _ _ _ _ _ _ _ _ _ hn h;subst this;rw[(hcq _ hi).1]at VM;cases VM
   ·cases h
  exact g3.rest b (h1.lt hn) (h1.own _ _ _ _ _ hn) Ur
 have ZD:∀i,¬cq i->∀m,w'.nm i m=none:=fun i hi m=>g1.none (by exact(hcq i hi).2) m
 have k2':Keep rG w w2:=⟨g3.size,g3.free,fun i m z _ hz=>by
  rw[nm2];split
  ·rename_i hi;rcases hi with hi|⟨s,hs⟩
   ·exact Xq i hi m z hz
   ·rcases k1 i s hs with hi|hi
    ·exact Xq i hi m z hz
    ·rw[h1.none hi]at hz;cases hz
  ·exact hz⟩
 have k3':Keep rG w' w2:=⟨Nat.le_refl _,fun _ _ h=>⟨rfl,h⟩,fun i m z _ hz=>by
  rw[nm2];split
  ·exact hz
  ·rename_i hi;rw[ZD i hi]at hz;cases hz⟩
 have ZE:Ext w H w2 ⟨H.B,gF H.l H'.l⟩:={ k2' with
  os:=g3.os,tape:=g3.tape,output:=g3.output
  rest:=fun b hb hO Ur=>by
   obtain⟨e1,e2,e3⟩:=g3.rest b hb hO fun i m t s h=>by
    rw[nmO]at h;split at h
    ·exact Ur _ _ _ _ h
    ·cases h
   refine⟨e1,e2,fun i m t s h=>?_⟩;rw[nm2]at h;split at h
   ·exact e3 _ _ _ _ h
   ·exact Ur _ _ _ _ h
  base:=rfl }
 have Vq:∀i,(Hp.mk H.B (gF H.l H'.l)).get i=(aA H'.l i).or (H.get i):=fun i=>uf _ _ _ (fun _ _ _=>trivial) k2
 refine⟨v,r,_,w2,rfl,rfl,k3,{ rows:=fun i s hi=>?_,di:=fun i m z hz=>?_,inj:=fun i m j n b t s t' s' e1 e2=>?_,own:=fun i m b t s h=>?_,fin:=g1.fin,cd:=h1.cd.aX ZE.toKeep },g2.aX k3' (nA r),ZE⟩
 ·rw[Vq]at hi;by_cases XY:cq i
  ·cases e:aA H'.l i with
   |some s'=>
    rw[e]at hi;cases hi;obtain⟨e1,z,e2,e3⟩:=g1.rows i s e;refine⟨e1,z,by rw[nm2,if_pos XY];exact e2,?_⟩;cases z with
    |nil=>exact e3
    |«at» b t st=> obtain⟨f1,cur,f2,f3,f5⟩:=e3;exact⟨f1,cur,f2,f3,fun k a v ha hv=>(f5 k a v ha hv).aX k3' (nA a)⟩
   |none=>
    exfalso;rcases XY with VM|⟨s',XZ⟩
    ·obtain⟨r0,ZF⟩:=yr VM;obtain⟨_,z,e2,_⟩:=h1.rows i r0 (Ve i r0 ZF);obtain⟨r',e3,_⟩:=g1.di i r0.fR z (Xq i VM _ _ e2);rw[show H'.get i=aA H'.l i from rfl,e]at e3;cases e3
    ·rw[e]at XZ;cases XZ
  ·rw[(hcq i XY).2,Option.none_or]at hi;obtain⟨e1,z,e2,e3⟩:=h1.rows i s hi;refine⟨e1,z,by rw[nm2,if_neg XY];exact e2,e3.ext ZE fun b t st e=>?_⟩;subst e;exact(WW i _ b t st XY e2).1
 ·rw[nm2]at hz;rw[Vq];split at hz
  ·obtain⟨s,e1,e2⟩:=g1.di i m z hz;exact⟨s,by rw[show aA H'.l i=some s from e1];rfl,e2⟩
  ·rename_i XY;rw[(hcq i XY).2,Option.none_or];exact h1.di i m z hz
 ·rw[nm2]at e1 e2;split at e1<;>split at e2
  ·exact g1.inj _ _ _ _ _ _ _ _ _ e1 e2
  ·rename_i _ hj;exact((WW _ _ _ _ _ hj e2).2.2 _ _ _ _ e1).elim
  ·rename_i hi _;exact((WW _ _ _ _ _ hi e1).2.2 _ _ _ _ e2).elim
  ·exact h1.inj _ _ _ _ _ _ _ _ _ e1 e2
 ·rw[nm2]at h;split at h
  ·exact g1.own _ _ _ _ _ h
  ·rename_i hi;exact(WW _ _ _ _ _ hi h).2.1
def dc(P:Program)(t:TypeId):Option Nat:=(P.info? t).map (·.size)
def dH(P:Program)(t:TypeId):Option Bool:=(P.underlying t).map fun|.struct _|.array _ _=>true|_=>false
def cB(P:Program)(t:TypeId)(f:Nat):Option Nat:=match P.underlying t with
 |some (.struct fs)=>match fs[f]? with
  |some fd=>match dc P fd.type with
   |some (_+1)=>some fd.offset
   |_=>none
  |none=>none
 |_=>none
def ir(P:Program)(t:TypeId):Option TypeId:=match P.underlying t with
 |some (.slice e)=>some e
 |_=>none
def dR(P:Program)(t:TypeId):Option (List Value):=((P.info? t).bind (·.zero)).map fun v=>v.cells.toList
def AV.one:AV->Bool
 |.raw v=>v.oneCell'
 |.sl ..=>true
 |.ip _=>true
 |.pt ..=>true
 |.rs ..=>true
 |.rc ..=>true
 |.rv ..=>true
 |.mr _=>true
 |.dW ..=>true
 |.bd ..=>true
 |.iK ..=>true
 |.mv ..=>true
 |_=>false
def cM(l:List AV):Bool:=l.all AV.one
def AV.cells:AV->List AV
 |.agg cs=>cs
 |.raw (.agg vs)=>vs.toList.map .raw
 |v=>[v]
def Good(sz:Nat)(css:List (List AV)):Prop:=∀cs∈css,cs.length=sz/\cM cs=true
def px(H:Hp):AV->Option (Prop×List AV)
 |.ip cs=>some (True,cs)
 |.pt i m k j=>match H.get i with
  |some (.var _ cs)=>some (m=0,cs.drop j)
  |some (.aG _ _ css)=>some (m=css.length/\k<css.length,(css.getD k []).drop j)
  |some (.mp _ _)=>none
  |none=>none
 |_=>none
theorem gu{sz:Nat}:∀{l:List (List AV)},(∀x∈l,x.length=sz)->l.flatten.length=l.length*sz
 |[],_=>by simp
 |x::l,h=>by have ih:=gu (l:=l) (fun y hy=>h y (by simp[hy]));have hx:=h x jE;simp only[List.flatten_cons,List.length_append,hx,ih,List.length_cons,Nat.add_mul,Nat.one_mul];omega
theorem qF{sz:Nat}:∀{l:List (List AV)} {i j:Nat},(∀x∈l,x.length=sz)->i<l.length->j<sz->l.flatten[i*sz+j]?=(l.getD i [])[j]?
 |[],i,j,_,h,_=>by simp at h
 |x::l,i,j,hx,hi,hj=>by
  have YQ:=hx x jE;cases i with
  |zero=>simp only[List.flatten_cons,Nat.zero_mul,Nat.zero_add,List.getD_cons_zero];rw[List.getElem?_append_left jB]
  |succ i=> simp only[List.flatten_cons,List.getD_cons_succ];rw[List.getElem?_append_right (by rw[Nat.add_mul];omega),YQ,show(i+1)*sz+j-sz=i*sz+j by rw[Nat.add_mul];omega];exact qF (fun y hy=>hx y (by simp[hy])) (by simpa using hi) hj
def z8{j n:Nat}(hi:i<n)(hj:j<sz):i*sz+j<n*sz:=by have:=Nat.mul_le_mul_right sz (show i+1<=n from hi);rw[Nat.add_mul]at this;omega
def u0{k n:Nat}(h:k<n*sz):∃i j,i<n/\j<sz/\k=i*sz+j:=by
 have hz:0<sz:=by rcases Nat.eq_zero_or_pos sz with rfl|h'<;>simp_all
 exact⟨k / sz,k % sz,by rw[Nat.div_lt_iff_lt_mul hz];exact h,Nat.mod_lt _ hz,by rw[Nat.mul_comm];exact(Nat.div_add_mod k sz).symm⟩
def vy{css:List (List AV)}(h:∀cs∈css,cs.length=sz){k:Nat}(hk:k<css.length):(css.getD k []).length=sz:=by
 have:css.getD k []=css[k]:=by simp[hk]
 rw[this];exact h _ (List.getElem_mem hk)
section
variable {P:Program}{w:NW}{H:Hp}
theorem ax.one{a:AV}{v:Value}(h:ax w a v)(h1:a.one=true):v.oneCell'=true:=by cases h<;>first|exact h1|rfl|simp[AV.one]at h1
def tp{w:World}(g i:Nat)(cur:Array Value)(t:TypeId)(fr:Nat×Nat)(hg:w.heap[g]?=some (.cells cur t fr)):w.cell? ⟨g,i,none⟩=cur[i]?:=by simp[World.cell?,hg]
variable{va:Value}{cs:List AV}
def Fp{a:AV}{c:Prop}(h:ax w a va)(hw:aJ w H)(hc:px H a=some (c,cs))(XG:c) :
  ∃(ad:Addr) (vs:Nat->Value),va=.pointer (some ad)/\(∀j,j<cs.length->w.cell? (ad.add j)=some (vs j))/\∀(j:Nat) u,cs[j]?=some u->ax w u (vs j):=by
 unfold px at hc;split at hc
 ·cases hc;cases h with
  |ip _ ad vs hb hH D' hr=>exact⟨ad,vs,rfl,D',fun j u hu=>(hr j u hu).mj⟩
 ·rename_i i m k j;cases h with
  |pt _ _ _ _ b t s hn=>
  split at hc
  ·rename_i ty cs' hi;cases hc;subst XG;obtain⟨hok,z,hz,UU⟩:=hw.rows i _ hi;have:z=.at b t s:=by have hz:w.nm i 0=some z:=hz;rw[hn]at hz;cases hz;rfl
   subst this;obtain⟨rfl,cur,hh,⟨hs,hl⟩,hr⟩:=UU;have Zk:(Row.var ty cs').bB=0:=rfl;refine⟨⟨b,k*(Row.var ty cs').bB+j,none⟩,fun q=>cur.getD (j+q) undef,rfl,fun q hq=>?_,fun q u hu=>?_⟩
   ·rw[jq,Zk,Nat.mul_zero,Nat.zero_add,tp b _ cur _ (0,0) hh];simp only[List.length_drop]at hq;have hl:cs'.length<=t:=hl;have:j+q<cur.size:=jB;simp[this]
   ·rw[List.getElem?_drop]at hu;have O':j+q<cs'.length:=(List.getElem?_eq_some_iff.1 hu).1;have hl:cs'.length<=t:=hl;have:j+q<cur.size:=jB;exact hr _ _ _ hu (by simp[this])
  ·rename_i e sz css hi;cases hc;obtain⟨rfl,hk⟩:=XG;obtain⟨hok,z,hz,UU⟩:=hw.rows i _ hi;have:z=.at b t s:=by have hz:w.nm i css.length=some z:=hz;rw[hn]at hz;cases hz;rfl
   subst this;obtain⟨hs_,cur,hh,⟨hs,hl⟩,hr⟩:=UU;have hs_:sz=s:=hs_.symm;subst hs_;have Zk:(Row.aG e sz css).bB=sz:=rfl;have I':=vy hok.2 hk;have VN:(Row.aG e sz css).cells.length=css.length*sz:=gu hok.2;refine⟨⟨b,k*sz+j,none⟩,fun q=>cur.getD (k*sz+(j+q)) undef,rfl,fun q hq=>?_,fun q u hu=>?_⟩
   ·simp only[List.length_drop,I']at hq;rw[jq,tp b _ cur _ (0,0) hh];have:=z8 hk (show j+q<sz from jB);have:k*sz+(j+q)<cur.size:=jB;rw[Nat.add_assoc];simp[this]
   ·rw[List.getElem?_drop]at hu;have O':j+q<sz:=by have:=(List.getElem?_eq_some_iff.1 hu).1;omega
    have h3:=z8 hk O';refine hr (k*sz+(j+q)) u _ ?_ ?_
    ·show css.flatten[k*sz+(j+q)]?=some u;rw[qF hok.2 hk O'];exact hu
    ·have:k*sz+(j+q)<cur.size:=jB;simp[this]
  ·cases hc
  ·cases hc
 ·cases hc
variable{t:TypeId}
def xq{w:World}{b:Bool}(h:dH P t=some b):(isAgg t).run P w=.ok b w:=by
 unfold dH at h;cases hu:P.underlying t with
 |none=>rw[hu]at h;cases h
 |some d=> rw[hu]at h;simp only[Option.map_some,Option.some.injEq]at h;simp only[isAgg,Sem.run_bind,run_underlying hu,Result.andThen_ok];subst h;cases d<;>rfl
variable{k:Nat}
def lL{w:World}(h:dc P t=some k):(sizeOf t).run P w=.ok k w:=by
 unfold dc at h;cases hi:P.info? t with
 |none=>rw[hi]at h;cases h
 |some i=> rw[hi]at h;simp only[Option.map_some,Option.some.injEq]at h;simp[sizeOf,typeInfo,hi,h]
def uh(ag:Bool)(k:Nat)(cs:List AV):AV:=if ag then .agg (cs.take k)else cs.getD 0 .any
def Gy{ad:Addr}{vs:Nat->Value}{ag:Bool}(Wd:dH P t=some ag)(Uu:dc P t=some k)(hk:k<=cs.length)(U8:1<=cs.length)
  (D':∀j,j<cs.length->w.cell? (ad.add j)=some (vs j)) (hr:∀(j:Nat) u,cs[j]?=some u->ax w u (vs j)) :
  ∃v,(loadVar t ad).run P w.toWorld=.ok v w.toWorld/\ax w (uh ag k cs) v:=by
 simp only[loadVar,Sem.run_bind,xq Wd,Result.andThen_ok];cases ag with
 |false=>
  simp only[Bool.false_eq_true,if_false,uh];have h0:=D' 0 jB;rw[CA]at h0;refine⟨vs 0,by rw[run_load];simp[h0],?_⟩;have:cs[0]?=some (cs.getD 0 .any):=by simp[List.getElem?_eq_getElem (show 0<cs.length from jB)]
  exact hr 0 _ this
 |true=>
  simp only[if_true,uh];simp only[Sem.run_bind,lL Uu,Result.andThen_ok,run_loadCells w.toWorld ad k vs (fun j hj=>D' j jB),Sem.run_pure];refine⟨_,rfl,.agg _ _ jF fun i a v ha hv=>?_⟩;have hi:i<k:=by have:=(List.getElem?_eq_some_iff.1 ha).1;simp at this;omega
  rw[List.getElem?_take,if_pos hi]at ha;have U3:v=vs i:=by
   have:(List.map vs (List.range k)).toArray[i]?=some (vs i):=by simp[hi]
   rw[this]at hv;cases hv;rfl
  subst U3;exact hr i a ha
def FU{a:AV}{c:Prop}{ag:Bool}(h:ax w a va)(hw:aJ w H)(hc:px H a=some (c,cs))(XG:c)(Wd:dH P t=some ag)(Uu:dc P t=some k)(hk:k<=cs.length)(U8:1<=cs.length) :
  ∃v,(Instr.loadAt t va).run P w.toWorld=.ok v w.toWorld/\ax w (uh ag k cs) v:=by
 obtain⟨ad,vs,rfl,D',hr⟩:=Fp h hw hc XG;obtain⟨v,h1,h2⟩:=Gy Wd Uu hk U8 D' hr;exact⟨v,by simpa[Instr.loadAt,Instr.sureAddr]using h1,h2⟩
variable{v:Value}
def ax.gP{a:AV}(h:ax w a v)(h1:cM a.cells=true):cf w a.cells v.cells.toList:=by
 unfold AV.cells at*;split
 ·rename_i cs;cases h with
  |agg _ vs hl hr=>exact⟨by simpa[Value.cells]using hl,fun i a v ha hv=>hr i a v ha (by simpa[Value.cells]using hv)⟩
 ·rename_i vs;cases h;refine⟨by simp[Value.cells],fun i a v ha hv=>?_⟩;simp only[List.getElem?_map,Option.map_eq_some_iff]at ha;obtain⟨x,hx,rfl⟩:=ha;simp only[Value.cells]at hv;rw[hx]at hv;cases hv;exact .raw _
 ·rename_i hna hnr;have YY:a.one=true:=by simpa[cM]using h1
  have ho:=h.one YY;have Yf:v.cells=#[v]:=by cases v<;>first|rfl|simp[Value.oneCell']at ho
  rw[Yf];refine⟨rfl,fun i a' v' ha hv=>?_⟩;cases i with
  |zero=>simp at ha hv;subst ha hv;exact h
  |succ i=>simp at ha
theorem cf.cM{cs:List AV}{vs:List Value}(h:cf w cs vs)(h1:cM cs=true):∀v∈vs,v.oneCell'=true:=by
 intro v hv;obtain⟨i,hi⟩:=List.getElem?_of_mem hv;have O':i<cs.length:=by rw[h.1];exact(List.getElem?_eq_some_iff.1 hi).1
 have:=h.2 i cs[i] v (List.getElem?_eq_getElem O') hi;exact this.one (by simp only[Gd.cM,List.all_eq_true]at h1;exact h1 _ (List.getElem_mem O'))
def kJ(cells:List AV)(off:Nat)(new:List AV):List AV:=cells.take off++new++cells.drop (off+new.length)
variable{new:List AV}{off:Nat}
def EA{cells:List AV}(h:off+new.length<=cells.length):(kJ cells off new).length=cells.length:=by simp[kJ];omega
def FI{cells:List AV}{p:Nat}(h:off<=cells.length):(kJ cells off new)[p]?=if off<=p/\p<off+new.length then new[p-off]? else cells[p]?:=by
 unfold kJ;rcases Nat.lt_or_ge p off with h1|h1
 ·rw[jN,List.append_assoc,List.getElem?_append_left jF,List.getElem?_take,if_pos h1]
 ·rcases Nat.lt_or_ge p (off+new.length)with h2|h2
  ·rw[if_pos ⟨h1,h2⟩,List.append_assoc,List.getElem?_append_right jF,List.getElem?_append_left jF];congr 1;simp;omega
  ·rw[jN,List.getElem?_append_right jF];simp only[List.length_append,List.length_take,List.getElem?_drop];congr 1;omega
variable{i:Nat}
def sH{b t:Nat}{r r':Row}{vs:List Value}(hw:aJ w H)(hi:H.get i=some r)(US:w.nm i r.fR=some (.at b t r.bB))(hn:cf w new vs)(h1:Gd.cM new=true)(Ve:off+new.length<=t)
  (Xc:r.zm=true) (hi2:r'.zm=true) (hs:r'.bB=r.bB) (he:r'.elem=r.elem) (hv:r.fR<=r'.fR) (hok:r'.ok) (Uq:r'.cells.length<=t) (ZG:∀(p:Nat) a,r'.cells[p]?=some a->if off<=p/\p<off+new.length then new[p-off]?=some a else r.cells[p]?=some a) :
  ∃w':NW,(storeCells ⟨b,off,none⟩ vs).run P w.toWorld=.ok () w'.toWorld/\aJ w' (H.put i r')/\Ext w H w' (H.put i r')/\w'.nm i r'.fR=some (.at b t r.bB):=by
 obtain⟨_,z,hz,UU⟩:=hw.rows i r hi;rw[US]at hz;cases hz;obtain⟨_,cur,hh,V3,hr⟩:=UU;rw[Row.tE Xc]at V3;obtain⟨Uu,hl⟩:=V3;rw[Row.sQ Xc]at hh;have I':=hn.1;have B':=run_storeCells_at P b off r.elem vs 0 cur w.toWorld hh jB (hn.cM h1);rw[Nat.add_zero]at B';generalize Xr:(cur.toList.take off++vs++cur.toList.drop (off+vs.length)).toArray=We at B';have ZH:We.size=t:=by subst Xr;simp;omega
 have WS:(w.toWorld.setRow b We).heap[b]?=some (.cells We r.elem (0,0)):=setRow_heap w.toWorld b cur We r.elem (0,0) hh;have VA:∀c,c≠b->(w.toWorld.setRow b We).heap[c]?=w.heap[c]?:=fun c hc=>setRow_other w.toWorld b c We hc
 have Yr:(w.toWorld.setRow b We).heap.size=w.heap.size:=size_setRow w.toWorld b We;obtain⟨g1,g2⟩:=Gp (W:=w.toWorld.setRow b We) hw hi US hs hv hok rfl rfl rfl Yr VA We (by rw[Row.sQ hi2,he];exact WS) (by rw[Row.tE hi2];exact⟨ZH,Uq⟩) (fun p a v ha hv=>by
  have hp:=ZG p a ha;have Xs:p<t:=by have:=(List.getElem?_eq_some_iff.1 ha).1;omega
  subst Xr;simp only[List.getElem?_toArray]at hv;split at hp
  ·rename_i Vo;rw[List.append_assoc,List.getElem?_append_right jF,List.getElem?_append_left jF]at hv;simp only[List.length_take,Array.length_toList]at hv;rw[show p-min off cur.size=p-off from jB]at hv;exact hn.2 _ a v hp hv
  ·rename_i Vo;refine hr p a v hp ?_;rcases Nat.lt_or_ge p off with h1|h1
   ·rw[List.append_assoc,List.getElem?_append_left jF,List.getElem?_take,if_pos h1]at hv;simpa using hv
   ·rw[List.getElem?_append_right jF]at hv;simp only[List.length_append,List.length_take,Array.length_toList,List.getElem?_drop]at hv;rw[show off+vs.length+(p-(min off cur.size+vs.length))=p from jB]at hv;simpa using hv)
 exact⟨_,B',g1,g2,NW.cz _ _ _ _⟩
def yz(r:Row)(k j:Nat)(new:List AV):Row:=match r with
 |.var t cs=>.var t (kJ cs j new)
 |.aG e sz css=>.aG e sz (css.set k (kJ (css.getD k []) j new))
 |.mp ks vs=>.mp ks vs
def Bj(r:Row)(m k j n:Nat):Prop:=match r with
 |.var _ cs=>m=0/\j+n<=cs.length
 |.aG _ _ css=>m=css.length/\k<css.length/\j+n<=(css.getD k []).length
 |.mp _ _=>False
def Ta{ty:TypeId}{m j n:Nat}{r:Row}{x:AV}(hw:aJ w H)(ha:ax w (.pt i m k j) va)(hi:H.get i=some r)(hx:ax w x v)(h1:Gd.cM x.cells=true)(Uu:dc P ty=some n)(hn:x.cells.length=n)(P':Bj r m k j n) :
  ∃w':NW,(Instr.storeAt ty va v).run P w.toWorld=.ok () w'.toWorld/\aJ w' (H.put i (yz r k j x.cells))/\Ext w H w' (H.put i (yz r k j x.cells)):=by
 have hc:=hx.gP h1;have hai:v.cells.size=n:=by have:=hc.1;simp at this;omega
 have run:∀{W:World} (b off:Nat),(storeCells ⟨b,off,none⟩ v.cells.toList).run P w.toWorld=.ok () W->(Instr.storeAt ty (.pointer (some ⟨b,off,none⟩)) v).run P w.toWorld=.ok () W:=fun b off B'=>by simp only[Instr.storeAt,Instr.sureAddr,pure_bind,storeVar,Sem.run_bind,lL Uu,Result.andThen_ok,hai,ne_eq,not_true_eq_false,if_false];simpa using B'
 obtain⟨hok,z,hz,UU⟩:=hw.rows i r hi;cases ha with
 |pt _ _ _ _ b t s US=>
 cases r with
 |var ty' cs=>
  obtain⟨rfl,Ve⟩:=P';have hz:w.nm i 0=some z:=hz;rw[US]at hz;cases hz;obtain⟨rfl,cur,hh,⟨ZH,hl⟩,hr⟩:=UU;have hl:cs.length<=t:=hl;have V4:(Row.var ty' cs).bB=0:=rfl;have Ys:=EA (cells:=cs) (new:=x.cells) (off:=j) jB;obtain⟨w',B',g1,g2,_⟩:=sH (P:=P) (off:=j) (r':=.var ty' (kJ cs j x.cells)) hw hi US hc h1 jB rfl rfl rfl rfl jl trivial (by show(kJ cs j x.cells).length<=t;omega) (fun p a hp=>by
   have hp:(kJ cs j x.cells)[p]?=some a:=hp;rw[FI jB]at hp;split at hp
   ·rename_i h;rw[if_pos h];exact hp
   ·rename_i h;rw[if_neg h];exact hp)
  refine⟨w',run _ _ ?_,g1,g2⟩;rw[V4,Nat.mul_zero,Nat.zero_add];exact B'
 |aG e sz css=>
  obtain⟨rfl,hk,Ve⟩:=P';have hz:w.nm i css.length=some z:=hz;rw[US]at hz;cases hz;obtain⟨hs_,cur,hh,⟨ZH,hl⟩,hr⟩:=UU;have hs_:sz=s:=hs_.symm;subst hs_;have V4:(Row.aG e sz css).bB=sz:=rfl;have I':=vy hok.2 hk;have VN:(Row.aG e sz css).cells.length=css.length*sz:=gu hok.2;have O':j+n<=sz:=jB;have hmul:=Nat.mul_le_mul_right sz (show k+1<=css.length from hk);rw[Nat.add_mul,Nat.one_mul]at hmul;have Ys:=EA (cells:=css.getD k []) (new:=x.cells) (off:=j) jB;have ZI:∀cs∈css.set k (kJ (css.getD k []) j x.cells),cs.length=sz:=fun cs h=>by
   rcases List.mem_or_eq_of_mem_set h with h|h
   ·exact hok.2 _ h
   ·rw[h,Ys,I']
  have hfl':(css.set k (kJ (css.getD k []) j x.cells)).flatten.length=css.length*sz:=by rw[gu ZI,List.length_set]
  obtain⟨w',B',g1,g2,_⟩:=sH (P:=P) (off:=k*sz+j) (r':=.aG e sz (css.set k (kJ (css.getD k []) j x.cells))) hw hi US hc h1 jB rfl rfl rfl rfl (by show css.length<=(css.set _ _).length;simp) ⟨hok.1,ZI⟩ (by show(List.flatten _).length<=t;omega) (fun p a hp=>by
   have hp:(css.set k (kJ (css.getD k []) j x.cells)).flatten[p]?=some a:=hp;have Xs:p<css.length*sz:=by have:=(List.getElem?_eq_some_iff.1 hp).1;omega
   obtain⟨q,l,hq,VY,rfl⟩:=u0 Xs;rw[qF ZI (by simpa using hq) VY]at hp;show if k*sz+j<=q*sz+l/\q*sz+l<k*sz+j+x.cells.length then _ else css.flatten[q*sz+l]?=some a
   rw[qF hok.2 hq VY];by_cases e':q=k
   ·subst e';have e1:(css.set q (kJ (css.getD q []) j x.cells)).getD q []=kJ (css.getD q []) j x.cells:=by simp[hk]
    rw[e1,FI jB]at hp;split at hp
    ·rename_i h;rw[jP,show q*sz+l-(q*sz+j)=l-j from jB];exact hp
    ·rename_i h;rw[jN];exact hp
   ·have e1:(css.set k (kJ (css.getD k []) j x.cells)).getD q []=css.getD q []:=by simp[List.getElem?_set,Ne.symm e']
    rw[e1]at hp;rw[if_neg]
    ·exact hp
    ·rintro⟨h1,h2⟩;apply e';rcases Nat.lt_trichotomy q k with h|h|h
     ·have:=Nat.mul_le_mul_right sz (show q+1<=k from h);rw[Nat.add_mul]at this;omega
     ·exact h
     ·have:=Nat.mul_le_mul_right sz (show k+1<=q from h);rw[Nat.add_mul]at this;omega)
  exact⟨w',run _ _ B',g1,g2⟩
 |mp ks vs=>exact P'.elim
def Nc{x:AV}(hw:aJ w H)(hi:H.get i=none)(hx:ax w x v)(h1:Gd.cM x.cells=true) :
  ∃(u:Value) (w':NW),(Instr.box t v).run P w.toWorld=.ok u w'.toWorld/\ax w' (.pt i 0 0 0) u/\aJ w' (H.put i (.var t x.cells))/\Ext w H w' (H.put i (.var t x.cells)):=by
 have hc:=hx.gP h1;have I':x.cells.length=v.cells.size:=by have:=hc.1;simpa using this
 obtain⟨g1,g2⟩:=v6 (row:=.var t x.cells) hw (hw.none hi _) (fun r' hr=>by rw[hi]at hr;cases hr) trivial v.cells ⟨rfl,by show x.cells.length<=_;omega⟩ (fun k a u ha hu=>hc.2 k a u ha (by simpa using hu));refine⟨.pointer (some ⟨w.heap.size,0,none⟩),_,by simp[Instr.box,newVar,newRow];rfl,?_,g1,g2⟩;have:=ax.pt (w:=((w.to (w.alloc ((Row.var t x.cells).obj v.cells))).gi w.heap.size).name i (Row.var t x.cells).fR (.at w.heap.size v.cells.size (Row.var t x.cells).bB)) i 0 0 0 w.heap.size v.cells.size 0 (NW.cz _ _ _ _);simpa using this
variable{zs:List Value}
def yo{w:World}(h:dR P t=some zs):∃z:Value,(zeroValue t).run P w=.ok z w/\z.cells.toList=zs:=by
 unfold dR at h;cases hi:P.info? t with
 |none=>rw[hi]at h;cases h
 |some i=> rw[hi]at h;simp only[Option.bind_some,Option.map_eq_some_iff]at h;obtain⟨z,hz,rfl⟩:=h;exact⟨z,by simp[zeroValue,typeInfo,hi,hz],rfl⟩
def NS(hw:aJ w H)(hi:H.get i=none)(hz:dR P t=some zs) :
  ∃(u:Value) (w':NW),(Instr.alloc t true (.tuple #[])).run P w.toWorld=.ok u w'.toWorld/\ax w' (.pt i 0 0 0) u/\aJ w' (H.put i (.var t (zs.map .raw)))/\Ext w H w' (H.put i (.var t (zs.map .raw))):=by
 obtain⟨z,B',rfl⟩:=yo (w:=w.toWorld) hz;obtain⟨g1,g2⟩:=v6 (row:=.var t (z.cells.toList.map .raw)) hw (hw.none hi _) (fun r' hr=>by rw[hi]at hr;cases hr) trivial z.cells ⟨rfl,by show(z.cells.toList.map AV.raw).length<=_;simp⟩ (fun k a u ha hu=>by have ha:(z.cells.toList.map AV.raw)[k]?=some a:=ha;simp only[List.getElem?_map,Array.getElem?_toList,hu,Option.map_some,Option.some.injEq]at ha;subst ha;exact .raw _)
 refine⟨.pointer (some ⟨w.heap.size,0,none⟩),_,by simp[Instr.alloc,B',newVar,newRow];rfl,?_,g1,g2⟩;have:=ax.pt (w:=((w.to (w.alloc ((Row.var t (z.cells.toList.map .raw)).obj z.cells))).gi w.heap.size).name i (Row.var t (z.cells.toList.map .raw)).fR (.at w.heap.size z.cells.size (Row.var t (z.cells.toList.map .raw)).bB)) i 0 0 0 w.heap.size z.cells.size 0 (NW.cz _ _ _ _);simpa using this
end
abbrev PA:=Prop×AV
def iu:PA:=(False,.any)
def j8(P:Program)(w:NW)(s:Sem Value)(q:PA):Prop:=q.1->∃v,s.run P w.toWorld=.ok v w.toWorld/\ax w q.2 v
def Fb{P:Program}{s:Sem Value}:j8 P w s iu:=fun h=>h.elim
def jK:AV->Bool×AV
 |.gd p v=>(p,v)
 |v=>(true,v)
def xE(c x y:Bool):Bool:=if c then x else y
def I4(c a b:AV):PA:=match c with
 |.raw (.bool true)=>((jK a).1=true,(jK a).2)
 |.raw (.bool false)=>((jK b).1=true,(jK b).2)
 |_=>iu
def nU(c a b:AV):PA:=match c,jK a,jK b with
 |.raw (.bool c),(pa,.raw (.bool x)),(pb,.raw (.bool y))=>((c=true->pa=true)/\(c=false->pb=true),.raw (.bool (xE c x y)))
 |c,_,_=>I4 c a b
def oK(P:Program)(t:TypeId)(m:String):Option FuncId:=match P.info? t,P.underlying t with
 |some ti,some (.pointer _)=>match ti.methods.find? (·.name == m)with
  |some r=>if r.path.isEmpty then match r.func with
   |some (f,true)=>some f
   |_=>none
   else none
  |none=>none
 |_,_=>none
def qG(P:Program):AV->PA
 |.mv m (.iK t x)=>((oK P t m).isSome=true,.mv m (.iK t x))
 |.ip cs=>(True,.ip cs)
 |.pt i m k j=>(True,.pt i m k j)
 |.raw (.pointer (some a))=>(True,.raw (.pointer (some a)))
 |.raw (.func (.func f) x y)=>(True,.raw (.func (.func f) x y))
 |.raw (.iface t v)=>(True,.raw (.iface t v))
 |.raw (.slice a n c)=>(True,.raw (.slice a n c))
 |.raw (.map (some r))=>(True,.raw (.map (some r)))
 |_=>iu
def tg(op:BinOp)(k:IntKind)(x y:Int):Int:=
 let a:=BitVec.ofInt k.bits x
 let b:=BitVec.ofInt k.bits y
 match op with
 |.and=>k.wrap (a &&& b).toNat
 |.or=>k.wrap (a ||| b).toNat
 |.xor=>k.wrap (a ^^^ b).toNat
 |_=>k.wrap (a &&& ~~~b).toNat
def yk(op:BinOp)(k:IntKind)(a:Int)(k':IntKind)(b:Int):PA:=match op with
 |.add=>(k=k',.raw (.int k (k.wrap (a+b))))
 |.sub=>(k=k',.raw (.int k (k.wrap (a-b))))
 |.mul=>(k=k',.raw (.int k (k.wrap (a*b))))
 |.quo=>(k=k'/\b≠0,.raw (.int k (k.wrap (a.tdiv b))))
 |.rem=>(k=k'/\b≠0,.raw (.int k (a.tmod b)))
 |.and=>(k=k',.raw (.int k (tg .and k a b)))
 |.or=>(k=k',.raw (.int k (tg .or k a b)))
 |.xor=>(k=k',.raw (.int k (tg .xor k a b)))
 |.andNot=>(k=k',.raw (.int k (tg .andNot k a b)))
 |.shl=>(0<=b,.raw (.int k (k.wrap (a*2 ^ (min b.toNat k.bits)))))
 |.shr=>(0<=b,.raw (.int k (a.fdiv (2 ^ (min b.toNat k.bits)))))
 |.eql=>(k=k',.raw (.bool (decide (a=b))))
 |.neq=>(k=k',.raw (.bool (!decide (a=b))))
 |.lss=>(k=k',.raw (.bool (decide (a<b))))
 |.leq=>(k=k',.raw (.bool (decide (a<=b))))
 |.gtr=>(k=k',.raw (.bool (decide (b<a))))
 |.geq=>(k=k',.raw (.bool (decide (b<=a))))
def zv(op:BinOp)(a b:ByteArray):PA:=match op with
 |.add=>(a.size+b.size<=9223372036854775807,.raw (.string (a++b)))
 |.eql=>(True,.raw (.bool (decide (a=b))))
 |.neq=>(True,.raw (.bool (!decide (a=b))))
 |.lss=>(True,.raw (.bool (Op.bytesLess a.toList b.toList)))
 |.gtr=>(True,.raw (.bool (!(Op.bytesLess a.toList b.toList || decide (a=b)))))
 |.leq=>(True,.raw (.bool (Op.bytesLess a.toList b.toList || decide (a=b))))
 |.geq=>(True,.raw (.bool (!(Op.bytesLess a.toList b.toList))))
 |_=>iu
def jh:List AV->List AV->Bool
 |[],[]=>true
 |.raw (.int _ a)::l,.raw (.int _ b)::m=>decide (a=b) && jh l m
 |.raw (.string a)::l,.raw (.string b)::m=>decide (a=b) && jh l m
 |.raw (.bool a)::l,.raw (.bool b)::m=>(a == b) && jh l m
 |_,_=>false
def td(P:Program)(t:TypeId):Bool:=match P.underlying t with
 |some (.pointer _)=>true
 |_=>false
def Aj(P:Program)(t:TypeId):Bool:=match P.underlying t with
 |some (.interface _)=>true
 |_=>false
def x8(P:Program)(t:TypeId):Bool:=match P.underlying t with
 |some .bool=>true
 |_=>false
def sU(P:Program)(t:TypeId):Bool:=match P.underlying t with
 |some .string=>true
 |_=>false
def gW(P:Program)(t:TypeId):Bool:=match P.underlying t with
 |some (.slice _)=>true
 |_=>false
inductive LK where
 |int (k:IntKind)|str|bool
 deriving DecidableEq
def j9:AV->Option LK
 |.raw (.int k _)=>some (.int k)
 |.raw (.string _)=>some .str
 |.raw (.bool _)=>some .bool
 |_=>none
def wM(P:Program)(leafK:TypeId->Option (List LK)):Nat->List Field->Option (List LK)
 |_,[]=>some []
 | off, f :: fs => if f.name ≠ "_" ∧ f.offset = off then match leafK f.type, dc P f.type with
   |some ks,some k=>if ks.length=k then(wM P leafK (off+k) fs).map (ks++·)else none
   |_,_=>none
  else none
def sT(P:Program):Nat->TypeId->Option (List LK)
 |0,_=>none
 |d+1,t=>match P.underlying t with
  |some (.int k)=>some [.int k]
  |some .string=>some [.str]
  |some .bool=>some [.bool]
  |some (.struct fs)=>if P.stoodInHeld t then none else wM P (sT P d) 0 fs.toList
  |_=>none
def zn(P:Program)(t:TypeId):Option (List LK):=if P.eqGuardType P.depth t then none else sT P 8 t
def wV(P:Program)(ne:Bool)(t:TypeId)(x y:AV):PA:=match x,y with
 |.raw (.bool a),.raw (.bool b)=>(x8 P t=true,.raw (.bool (ne ^^ (a == b))))
 |.raw (.pointer none),.raw (.pointer b)=>(td P t=true,.raw (.bool (ne ^^ b.isNone)))
 |.raw (.pointer (some _)),.raw (.pointer none)=>(td P t=true,.raw (.bool ne))
 |.ip _,.raw (.pointer none)=>(td P t=true,.raw (.bool ne))
 |.pt ..,.raw (.pointer none)=>(td P t=true,.raw (.bool ne))
 |.raw (.slice none _ _),.raw (.slice b _ _)=>(gW P t=true,.raw (.bool (ne ^^ b.isNone)))
 |.raw (.slice (some _) _ _),.raw (.slice none _ _)=>(gW P t=true,.raw (.bool ne))
 |.sl _ _ css _,.raw (.slice none _ _)=>(gW P t=true/\css≠[],.raw (.bool ne))
 |.agg cs,.agg ds=>match zn P t with
  |some ks=>(dH P t=some true/\cs.map j9=ks.map some/\ds.map j9=ks.map some,.raw (.bool (ne ^^ jh cs ds)))
  |none=>iu
 |_,_=>iu
def fI(P:Program)(op:BinOp)(t:TypeId)(x y:AV):PA:=match x,y with
 |.raw (.int k a),.raw (.int k' b)=>yk op k a k' b
 |.raw (.string a),.raw (.string b)=>zv op a b
 |x,y=>match op with
  |.eql=>wV P false t x y
  |.neq=>wV P true t x y
  |_=>iu
def sf(op:UnOp)(x:AV):PA:=match op,x with
 |.not,.raw (.bool b)=>(True,.raw (.bool (!b)))
 |.neg,.raw (.int k n)=>(True,.raw (.int k (k.wrap (0-n))))
 |_,_=>iu
def o5(P:Program)(H:Hp)(t:TypeId)(a:AV):PA:=match px H a,dH P t,dc P t with
 |some (c,cs),some true,some k=>(c/\k<=cs.length/\1<=cs.length,.agg (cs.take k))
 |some (c,cs),some false,some k=>(c/\k<=cs.length/\1<=cs.length,cs.getD 0 .any)
 |_,_,_=>iu
def sD(P:Program)(t:TypeId)(a:AV)(f:Nat):PA:=match a,cB P t f with
 |.ip cs,some off=>(True,.ip (cs.drop off))
 |.pt i m k j,some off=>(True,.pt i m k (j+off))
 |_,_=>iu
def wm(P:Program)(t:TypeId)(f:Nat):Option (TypeId×Nat):=match P.underlying t with
 |some (.struct fs)=>(fs[f]?).map fun fd=>(fd.type,fd.offset)
 |_=>none
def yI(P:Program)(t:TypeId)(cs:List AV)(off:Nat):PA:=match dH P t,dc P t with
 |some true,some k=>(off+k<=cs.length,.agg ((cs.drop off).take k))
 |some false,some _=>(off<cs.length,cs.getD off .any)
 |_,_=>iu
def uW(P:Program)(t:TypeId)(a:AV)(f:Nat):PA:=match a,wm P t f with
 |.agg cs,some (ft,off)=>yI P ft cs off
 |_,_=>iu
def iv(P:Program)(t:TypeId):Option Nat:=(ir P t).bind (dc P)
def zb(P:Program)(t:TypeId):Option (Nat×Nat):=match P.underlying t with
 |some (.array len e)=>(dc P e).map fun s=>(len,s)
 |_=>none
def zG(o:Option (Nat×Nat))(i:Int)(f:Nat->AV):PA:=match o with
 |some (len,s)=>(0<=i/\i<len,f (i.toNat*s))
 |none=>iu
def tc(P:Program)(t:TypeId)(a i:AV):PA:=match a,i with
 |.sl _ sz css d,.raw (.int _ i)=>(iv P t=some sz/\0<=i/\i<css.length,.ip (css.getD i.toNat d))
 |.rs d m sz n,.raw (.int _ i)=>(iv P t=some sz/\0<=i/\i<n,.pt d m i.toNat 0)
 |.rc d m sz n,.raw (.int _ i)=>(iv P t=some sz/\0<=i/\i<n,.pt d m i.toNat 0)
 |.rv d m sz o n,.raw (.int _ i)=>(iv P t=some sz/\0<=i/\i<n,.pt d m (o+i.toNat) 0)
 |.pt d m k j,.raw (.int _ i)=>zG (zb P t) i fun o=>.pt d m k (j+o)
 |.ip cs,.raw (.int _ i)=>zG (zb P t) i fun o=>.ip (cs.drop o)
 |_,_=>iu
def eO(s:ByteArray)(i:Int):Int:=((s.data[i.toNat]?.getD 0).toNat:Int)
def sX(P:Program)(t:TypeId)(a i:AV):PA:=match a,i with
 |.raw (.string s),.raw (.int _ i)=>(sU P t=true/\0<=i/\i<s.size,.raw (.int .u8 (eO s i)))
 |_,_=>iu
def vO(a:AV)(i:Nat):PA:=match a with
 |.aQ vs=>(i<vs.length,vs.getD i .any)
 |_=>iu
def rT:Option AV->Option (Option Int)
 |none=>some none
 |some (.raw (.int _ i))=>some (some i)
 |_=>none
def tu(P:Program)(t:TypeId)(a:AV)(lo hi mx:Option AV):PA:=match a,rT lo,rT hi,rT mx with
 |.raw (.string s),some lo,some hi,some none=>(sU P t=true/\0<=lo.getD 0/\lo.getD 0<=hi.getD s.size/\hi.getD s.size<=s.size,.raw (.string (s.extract (lo.getD 0).toNat (hi.getD s.size).toNat)))
 |.sl _ sz css d,some lo,some hi,some none=> (iv P t=some sz/\0<=lo.getD 0/\lo.getD 0<=hi.getD css.length/\hi.getD css.length<=css.length,.sl false sz ((css.drop (lo.getD 0).toNat).take ((hi.getD css.length).toNat-(lo.getD 0).toNat)) d)
 |.rs d m sz n,some none,some hi,some none=>(iv P t=some sz/\0<=hi.getD n/\hi.getD n<=n,.rs d m sz (hi.getD n).toNat)
 |.rs d m sz n,some (some lo),some hi,some none=>(iv P t=some sz/\0<=lo/\lo<=hi.getD n/\hi.getD n<=n,.rv d m sz lo.toNat ((hi.getD n).toNat-lo.toNat))
 |.rc d m sz n,some none,some hi,some none=>(iv P t=some sz/\0<=hi.getD n/\hi.getD n<=m,.rc d m sz (hi.getD n).toNat)
 |.rc d m sz n,some (some lo),some hi,some none=>(iv P t=some sz/\0<=lo/\lo<=hi.getD n/\hi.getD n<=m,.rv d m sz lo.toNat ((hi.getD n).toNat-lo.toNat))
 |.rc d m sz n,some lo,some (some hi),some (some mx)=>(iv P t=some sz/\0<=lo.getD 0/\lo.getD 0<=hi/\hi<=mx/\mx<=m,.rv d m sz (lo.getD 0).toNat (hi.toNat-(lo.getD 0).toNat))
 |.rv d m sz o n,some lo,some hi,some none=>(iv P t=some sz/\0<=lo.getD 0/\lo.getD 0<=hi.getD n/\hi.getD n<=n,.rv d m sz (o+(lo.getD 0).toNat) ((hi.getD n).toNat-(lo.getD 0).toNat))
 |.rs d m sz n,some lo,some (some hi),some (some mx)=>(iv P t=some sz/\0<=lo.getD 0/\lo.getD 0<=hi/\hi<=mx/\mx<=n,.rv d m sz (lo.getD 0).toNat (hi.toNat-(lo.getD 0).toNat))
 |.raw (.slice none 0 0),some lo,some hi,some none=>(gW P t=true/\(iv P t).isSome=true/\lo.getD 0=0/\hi.getD 0=0,.raw (.slice none 0 0))
 |_,_,_,_=>iu
def Hb:List AV->Option (List Value)
 |[]=>some []
 |.raw v::l=>(Hb l).map (v::·)
 |_=>none
def uS(fn:Fn)(first captured:List AV):PA:=match fn,first with
 |.func f,[]=>(True,.dW f captured)
 |.func f,x::l=>(captured=[],.bd f (x::l))
 |.method m,[x]=>(captured=[],.mv m x)
 |_,_=>iu
def ve(P:Program)(t:TypeId)(x:AV):PA:=match x,Aj P t,P.underlying t with
 |.raw v,false,some _=>(True,.raw (.iface t v))
 |a,false,some _=>(True,.iK t a)
 |_,_,_=>iu
def AH(P:Program)(t:TypeId):Option IntKind:=match P.underlying t with
 |some (.int k)=>some k
 |_=>none
def zw(P:Program)(s d:TypeId)(x:AV):PA:=match x,AH P d with
 |.raw (.int _ n),some k=>((P.underlying s).isSome=true,.raw (.int k (k.wrap n)))
 |.raw (.string s'),none=>((P.underlying s).isSome=true/\sU P d=true,.raw (.string s'))
 |_,_=>iu
def wC(P:Program)(t:TypeId):Bool:=match P.underlying t with
 |some (.map _ _)=>true
 |_=>false
def uB(P:Program)(H:Hp)(t:TypeId)(x:AV):PA:=match x with
 |.mr i=>if jW.contains t=true then(match H.get i with
  |some (.mp ks _)=>(wC P t=true,.raw (.int .i64 ks.length))
  |_=>iu)else iu
 |.sl _ _ css _=>(gW P t=true,.raw (.int .i64 css.length))
 |.rs _ _ _ n=>(gW P t=true,.raw (.int .i64 n))
 |.rc _ _ _ n=>(gW P t=true,.raw (.int .i64 n))
 |.rv _ _ _ _ n=>(gW P t=true,.raw (.int .i64 n))
 |.raw (.slice _ n _)=>(gW P t=true,.raw (.int .i64 n))
 |.raw (.string s)=>(sU P t=true,.raw (.int .i64 s.size))
 |_=>iu
def yC(P:Program)(t:TypeId)(x:AV):PA:=match x with
 |.sl true _ css _=>(gW P t=true,.raw (.int .i64 css.length))
 |.rc _ m _ _=>(gW P t=true,.raw (.int .i64 m))
 |.raw (.slice _ _ n)=>(gW P t=true,.raw (.int .i64 n))
 |_=>iu
def xI(mx:Bool)(args:List AV):PA:=match args with
 |[.raw (.int k a),.raw (.int k' b)]=>(k=k',.raw (.int k (if mx then(if b>a then b else a)else(if b<a then b else a))))
 |_=>iu
def mD(P:Program)(H:Hp)(b:Builtin)(ts:List TypeId)(args:List AV):PA:=match b,ts,args with
 |.len,t::_,x::_=>uB P H t x
 |.cap,t::_,x::_=>yC P t x
 |.max,_,args=>xI true args
 |.min,_,args=>xI false args
 |_,_,_=>iu
def jf(P:Program)(t:TypeId):Option (List (Nat×Nat)):=match P.underlying t with
 |some (.struct fs)=>fs.toList.mapM fun f=>(dc P f.type).map fun k=>(f.offset,k)
 |_=>none
def qJ(pl:Nat->Option (Nat×Nat))(cells:List AV):List (Nat×AV)->Option (List AV)
 |[]=>some cells
 |(i,a)::rest=>match pl i with
  |some (off,k)=>if a.cells.length=k/\off+k<=cells.length then qJ pl (kJ cells off a.cells) rest else none
  |none=>none
def vh(P:Program)(t:TypeId)(parts:List (Nat×AV)):PA:=match dR P t,jf P t with
 |some zs,some pl=>match qJ (fun i=>pl[i]?) (zs.map .raw) parts with
  |some cs=>(cM ((parts.map fun p=>p.2.cells).flatten)=true,.agg cs)
  |none=>iu
 |_,_=>iu
def vq(P:Program)(ev:Operand->AV)(H:Hp):Op->PA
 |.move x=>(True,ev x)
 |.assign x=>(True,ev x)
 |.pick c a b=>nU (ev c) (ev a) (ev b)
 |.nilCheck x=>qG P (ev x)
 |.binOp op t x y _=>fI P op t (ev x) (ev y)
 |.unOp op _ x=>sf op (ev x)
 |.load t a=>o5 P H t (ev a)
 |.fieldAddr t a f=>sD P t (ev a) f
 |.field t a f=>uW P t (ev a) f
 |.indexAddr t a i=>tc P t (ev a) (ev i)
 |.index t a i=>sX P t (ev a) (ev i)
 |.extract a i=>vO (ev a) i
 |.slice t a lo hi mx=>tu P t (ev a) (lo.map ev) (hi.map ev) (mx.map ev)
 |.makeFunc fn first captured=>uS fn (first.toList.map ev) (captured.toList.map ev)
 |.makeInterface t x=>ve P t (ev x)
 |.convert s d x=>zw P s d (ev x)
 |.build t parts=>vh P t (parts.toList.map fun p=>(p.1,ev p.2))
 |.call { callee:=.builtin b,args,argTypes }=>mD P H b argTypes.toList (args.toList.map ev)
 |_=>iu
section
variable {P:Program}{w:NW}{H:Hp}
def db{v u:Value}(h:ax w (.raw v) u):u=v:=by cases h;rfl
def AN(a b:Int):(a == b)=decide (a=b):=by rw[Bool.eq_iff_iff];simp
def wQ(a b:ByteArray):(a.toList == b.toList)=decide (a=b):=by
 rw[Bool.eq_iff_iff,beq_iff_eq,decide_eq_true_iff];constructor
 ·intro h;exact ByteArray.ext (by simpa[ByteArray.toList_eq]using h)
 ·rintro rfl;rfl
def zW{a:AV}{lk:LK}(h:j9 a=some lk):match lk with
  |.int k=>∃n,a=.raw (.int k n)
  |.str=>∃s,a=.raw (.string s)
  |.bool=>∃b,a=.raw (.bool b):=by
 unfold j9 at h;split at h<;>cases h<;>exact⟨_,rfl⟩
theorem JH:∀{a c b d:List AV},a.map j9=c.map j9->(∀x∈a,(j9 x).isSome=true)->jh (a++b) (c++d)=(jh a c && jh b d)
 |[],[],b,d,_,_=>by simp[jh]
 |[],_::_,_,_,h,_=>by simp at h
 |_::_,[],_,_,h,_=>by simp at h
 |x::a,y::c,b,d,h,hs=>by simp only[List.map_cons,List.cons.injEq]at h;have ih:=JH (b:=b) (d:=d) h.2 (fun z hz=>hs z (by simp[hz]));obtain⟨lk,hx⟩:=Option.isSome_iff_exists.1 (hs x jE);have hy:=h.1.symm.trans hx;have h1:=zW hx;have h2:=zW hy;cases lk<;>(obtain⟨u,rfl⟩:=h1;obtain⟨v,rfl⟩:=h2;simp only[List.cons_append,jh,ih,Bool.and_assoc])
variable{cs:List AV}
def BH{ks:List LK}(h:cs.map j9=ks.map some):(∀x∈cs,(j9 x).isSome=true)/\cs.length=ks.length:=by refine⟨fun x hx=>?_,by have:=congrArg List.length h;simpa using this⟩;have:j9 x∈cs.map j9:=List.mem_map.2 ⟨x,hx,rfl⟩;rw[h]at this;obtain⟨k,_,hk⟩:=List.mem_map.1 this;rw[<-hk];rfl
variable{t:TypeId}
def Nb{lk:LK}{a b:AV}{va vb:Value}(ht:P.underlying t=some (match lk with|.int k=>.int k|.str=>.string|.bool=>.bool))(ha:ax w a va)(hb:ax w b vb)(hka:j9 a=some lk)(hkb:j9 b=some lk)(d:Nat) :
  (Op.equalIn (d+1) t va vb).run P w.toWorld=.ok (jh [a] [b]) w.toWorld:=by
 have h1:=zW hka;have h2:=zW hkb;cases lk with
 |int k=>
  obtain⟨m,rfl⟩:=h1;obtain⟨n,rfl⟩:=h2;have:=db ha;have:=db hb;subst_vars
  rw[run_equalIn_int w d t k k _ _ ht];simp[jh,AN]
 |str=>
  obtain⟨m,rfl⟩:=h1;obtain⟨n,rfl⟩:=h2;have:=db ha;have:=db hb;subst_vars
  rw[run_equalIn_string w d t _ _ ht,wQ];simp[jh]
 |bool=>
  obtain⟨m,rfl⟩:=h1;obtain⟨n,rfl⟩:=h2;have:=db ha;have:=db hb;subst_vars
  rw[run_equalIn_bool w d t _ _ ht];simp[jh]
def BJ(P:Program)(t:TypeId)(v:Value)(vs:List Value):Prop:=(dH P t=some true/\v=.agg vs.toArray)\/(dH P t=some false/\vs=[v])
def Fa{xs:Array Value}{off k:Nat}(Wd:(dH P t).isSome=true)(Uu:dc P t=some k)(h1:dH P t=some false->k=1)(Ve:off+k<=xs.size) :
  ∃v,(part t xs off).run P w.toWorld=.ok v w.toWorld/\BJ P t v ((xs.toList.drop off).take k):=by
 obtain⟨ag,Wd⟩:=Option.isSome_iff_exists.1 Wd;cases ag with
 |true=>
  refine⟨.agg (xs.extract off (off+k)),by simp[part,xq Wd,lL Uu],.inl ⟨Wd,?_⟩⟩;congr 1
  apply Array.ext';simp[Array.toList_extract,List.extract_eq_take_drop]
 |false=> obtain rfl:=h1 Wd;have h2:xs[off]?=some (xs[off]' jB):=Array.getElem?_eq_getElem jB;refine⟨xs[off]' jB,by simp[part,xq Wd,h2],.inr ⟨Wd,?_⟩⟩;rw[List.drop_eq_getElem_cons jF];simp
variable{vs:List Value}
def DX(h:cf w cs vs)(n:Nat):cf w (cs.drop n) (vs.drop n):=⟨by simp[h.1],fun i a v ha hv=>h.2 (n+i) a v (by simpa using ha) (by simpa using hv)⟩
def Ke(h:cf w cs vs)(n:Nat):cf w (cs.take n) (vs.take n):=⟨by simp[h.1],fun i a v ha hv=>by
 rw[List.getElem?_take]at ha hv;split at ha
 ·rename_i hi;rw[if_pos hi]at hv;exact h.2 i a v ha hv
 ·cases ha⟩
def RA:∀(n:Nat),(∀(t:TypeId) (ks:List LK),sT P n t=some ks->∀(d:Nat) (v v':Value) (cs ds:List AV) (vs us:List Value),BJ P t v vs->BJ P t v' us->cf w cs vs->cf w ds us->cs.map j9=ks.map some->ds.map j9=ks.map some->
   (Op.equalIn (d+n) t v v').run P w.toWorld=.ok (jh cs ds) w.toWorld):=by
 intro n;induction n with
 |zero=>intro t ks h;simp[sT]at h
 |succ n ih=>
  intro t ks hk d v v' cs ds vs us hv U3 Vy Xt h1 h2;have leaf:∀lk:LK,P.underlying t=some (match lk with|.int k=>.int k|.str=>.string|.bool=>.bool)->ks=[lk]->dH P t=some false->(Op.equalIn (d+(n+1)) t v v').run P w.toWorld=.ok (jh cs ds) w.toWorld:=by
   rintro lk ht rfl Wd;have e1:vs=[v]:=by
    rcases hv with⟨h,_⟩|⟨_,h⟩
    ·rw[Wd]at h;cases h
    ·exact h
   have e2:us=[v']:=by
    rcases U3 with⟨h,_⟩|⟨_,h⟩
    ·rw[Wd]at h;cases h
    ·exact h
   subst e1 e2;match cs,ds,h1,h2 with
   |[a],[b],h1,h2=> exact Nb ht (Vy.2 0 _ _ rfl rfl) (Xt.2 0 _ _ rfl rfl) (by simpa using h1) (by simpa using h2) (d+n)
  unfold sT at hk;split at hk
  ·rename_i k hu;exact leaf (.int k) hu (by simpa using hk.symm) (by simp[dH,hu])
  ·rename_i hu;exact leaf .str hu (by simpa using hk.symm) (by simp[dH,hu])
  ·rename_i hu;exact leaf .bool hu (by simpa using hk.symm) (by simp[dH,hu])
  ·rename_i fs hu;split at hk
   ·cases hk
   ·rename_i P';have Wd:dH P t=some true:=by simp[dH,hu]
    have e1:v=.agg vs.toArray:=by
     rcases hv with⟨_,h⟩|⟨h,_⟩
     ·exact h
     ·rw[Wd]at h;cases h
    have e2:v'=.agg us.toArray:=by
     rcases U3 with⟨_,h⟩|⟨h,_⟩
     ·exact h
     ·rw[Wd]at h;cases h
    subst e1 e2;have hf:P.fieldsOf t=fs:=by simp[Program.fieldsOf,hu]
    rw[show d+(n+1)=(d+n)+1 from jB,run_equalIn_struct w (d+n) t _ _ (by rw[hf];exact hu) (by simpa using P'),hf];have gen:∀(l:List Field) (off:Nat) (ks:List LK),wM P (sT P n) off l=some ks->off<=cs.length->off<=ds.length->(cs.drop off).map j9=ks.map some->(ds.drop off).map j9=ks.map some->
      (Op.eqFields (d+n) vs.toArray us.toArray l).run P w=.ok (jh (cs.drop off) (ds.drop off)) w:=by
     intro l;induction l with
     |nil=>
      intro off ks hk _ _ g1 g2;simp only[wM,Option.some.injEq]at hk;subst hk;have c1:cs.drop off=[]:=by simpa using g1
      have c2:ds.drop off=[]:=by simpa using g2
      rw[c1,c2];simp[Op.eqFields,jh]
     |cons f l ihl=>
      intro off ks hk o1 o2 g1 g2;unfold wM at hk;split at hk
      ·rename_i Ur;obtain⟨Xd,rfl⟩:=Ur;split at hk
       ·rename_i ks1 k e1 e2;split at hk
        ·rename_i Wa;simp only[Option.map_eq_some_iff]at hk;obtain⟨ks2,Uy,rfl⟩:=hk;have l1:=(BH g1).2;have l2:=(BH g2).2;have ag:(dH P f.type).isSome=true/\(dH P f.type=some false->k=1):=by
          cases n with
          |zero=>simp[sT]at e1
          |succ n=>
           unfold sT at e1;split at e1
           ·rename_i hu;refine⟨by simp[dH,hu],fun _=>?_⟩;cases e1;exact Wa.symm
           ·rename_i hu;refine⟨by simp[dH,hu],fun _=>?_⟩;cases e1;exact Wa.symm
           ·rename_i hu;refine⟨by simp[dH,hu],fun _=>?_⟩;cases e1;exact Wa.symm
           ·rename_i hu;exact⟨by simp[dH,hu],fun h=>by simp[dH,hu]at h⟩
           ·cases e1
         have YZ:=Vy.1;have hul:=Xt.1;simp only[List.length_drop,List.length_append]at l1 l2;obtain⟨x,hx,cx⟩:=Fa (P:=P) (w:=w) (xs:=vs.toArray) (off:=f.offset) ag.1 e2 ag.2 jF;obtain⟨y,hy,cy⟩:=Fa (P:=P) (w:=w) (xs:=us.toArray) (off:=f.offset) ag.1 e2 ag.2 jF;simp only[List.map_append]at g1 g2;have split1:∀{zs:List AV},(zs.drop f.offset).map j9=ks1.map some++ks2.map some->((zs.drop f.offset).take k).map j9=ks1.map some/\(zs.drop (f.offset+k)).map j9=ks2.map some:=by
          intro zs h;have e:k=(ks1.map some).length:=by simp[Wa]
          constructor
          ·rw[List.map_take,h,e,List.take_left'];rfl
          ·rw[<-List.drop_drop,List.map_drop,h,e,List.drop_left'];rfl
         obtain⟨a1,a2⟩:=split1 g1;obtain⟨b1,b2⟩:=split1 g2;have Xu:=ih f.type ks1 e1 d x y _ _ _ _ cx cy (Ke (DX Vy f.offset) k) (Ke (DX Xt f.offset) k) a1 b1;have UZ:=ihl (f.offset+k) ks2 Uy jB jB a2 b2;have ZJ:jh (cs.drop f.offset) (ds.drop f.offset)=(jh ((cs.drop f.offset).take k) ((ds.drop f.offset).take k) && jh (cs.drop (f.offset+k)) (ds.drop (f.offset+k))):=by rw[<-JH (by rw[a1,b1]) (BH a1).1,<-List.drop_drop,<-List.drop_drop,List.take_append_drop,List.take_append_drop]
         simp only[Op.eqFields,ne_eq,Xd,not_false_eq_true,if_true,Sem.run_bind,hx,hy,Xu,Result.andThen_ok];rw[ZJ];cases hb:jh ((cs.drop f.offset).take k) ((ds.drop f.offset).take k)
         ·simp
         ·simp only[Bool.not_true,Bool.false_eq_true,if_false,Bool.true_and];exact UZ
        ·cases hk
       ·cases hk
      ·cases hk
    have:=gen fs.toList 0 ks hk (Nat.zero_le _) (Nat.zero_le _) (by simpa using h1) (by simpa using h2);simpa using this
  ·cases hk
def Mz{ne:Bool}{ds:List AV}{va vb:Value}{ks:List LK}{x y:Operand}(hk:zn P t=some ks)(Wd:dH P t=some true)(h1:cs.map j9=ks.map some)(h2:ds.map j9=ks.map some)(ha:ax w (.agg cs) va)(hb:ax w (.agg ds) vb) :
  ∃v,(do eqGuard (if ne then .neq else .eql) t x y va vb;binOp (if ne then .neq else .eql) t va vb:Sem Value).run P w.toWorld=.ok v w.toWorld/\ax w (.raw (.bool (ne ^^ jh cs ds))) v:=by
 unfold zn at hk;split at hk
 ·cases hk
 ·rename_i hg;cases ha with|agg _ vs l1 r1=>
  cases hb with|agg _ us l2 r2=>
  have he:=RA (P:=P) (w:=w) 8 t ks hk 9992 (.agg vs) (.agg us) cs ds vs.toList us.toList (.inl ⟨Wd,jE⟩) (.inl ⟨Wd,jE⟩) ⟨by simpa using l1,fun i a v ha hv=>r1 i a v ha (by simpa using hv)⟩ ⟨by simpa using l2,fun i a v ha hv=>r2 i a v ha (by simpa using hv)⟩ h1 h2;have X0:∀op,(eqGuard op t x y (.agg vs) (.agg us)).run P w.toWorld=.ok () w.toWorld:=fun op=>run_eqGuard_agg w op t x y vs us (by simpa using hg)
  have Zl:(Op.equalIn 10000 t (.agg vs) (.agg us)).run P w.toWorld=.ok (jh cs ds) w.toWorld:=he;cases ne
  ·simp only[Bool.false_eq_true,if_false,Sem.run_bind,X0,Result.andThen_ok,run_eql_struct,Zl];exact⟨_,rfl,by simpa using ax.raw _⟩
  ·simp only[if_true,Sem.run_bind,X0,Result.andThen_ok,run_neq_struct,Zl];exact⟨_,rfl,by simpa using ax.raw _⟩
end
section
variable {P:Program}{w:NW}{H:Hp}
variable{a:AV}{v:Value}
def wK(h:ax w a v)(hp:(jK a).1=true):ax w (jK a).2 v:=by
 unfold jK at*;split
 ·cases h with|gd p a v hh hu=>exact hh hp
 ·exact h
variable{va vb:Value}
def JT{c b:AV}{vc:Value}(hc:ax w c vc)(ha:ax w a va)(hb:ax w b vb):j8 P w (do pure (if<-asBool vc then va else vb)) (nU c a b):=by
 intro hq;unfold nU at*;split at hq
 ·rename_i cb pa x pb y e1 e2;have:=db hc;subst this;cases cb with
  |true=> have h:=wK ha (by rw[e1];exact hq.1 rfl);rw[e1]at h;have:=db h;subst this;exact⟨.bool x,by simp[asBool],by simpa[xE]using ax.raw _⟩
  |false=> have h:=wK hb (by rw[e2];exact hq.2 rfl);rw[e2]at h;have:=db h;subst this;exact⟨.bool y,by simp[asBool],by simpa[xE]using ax.raw _⟩
 ·unfold I4 at*;split at hq
  ·have:=db hc;subst this;exact⟨va,by simp[asBool],wK ha hq⟩
  ·have:=db hc;subst this;exact⟨vb,by simp[asBool],wK hb hq⟩
  ·exact hq.elim
def L3(op:BinOp)(t:TypeId)(k:IntKind)(a:Int)(k':IntKind)(b:Int)(x y:Operand):j8 P w (do eqGuard op t x y (.int k a) (.int k' b);binOp op t (.int k a) (.int k' b)) (yk op k a k' b):=by
 intro hq;cases op<;>simp only[yk]at hq ⊢
 case shl=> have h0:¬b<0:=jB;exact⟨_,by simp[eqGuard_at_int,binOp,Op.shift,h0],.raw _⟩
 case shr=> have h0:¬b<0:=jB;exact⟨_,by simp[eqGuard_at_int,binOp,Op.shift,h0],.raw _⟩
 case quo=>obtain⟨rfl,h0⟩:=hq;exact⟨_,by simp[eqGuard_at_int,binOp,Op.intDiv,h0],.raw _⟩
 case rem=>obtain⟨rfl,h0⟩:=hq;exact⟨_,by simp[eqGuard_at_int,binOp,Op.intDiv,h0],.raw _⟩
 case and=>subst hq;exact⟨_,by simp[eqGuard_at_int,binOp,Op.intBits,tg],.raw _⟩
 case or=>subst hq;exact⟨_,by simp[eqGuard_at_int,binOp,Op.intBits,tg],.raw _⟩
 case xor=>subst hq;exact⟨_,by simp[eqGuard_at_int,binOp,Op.intBits,tg],.raw _⟩
 case andNot=>subst hq;exact⟨_,by simp[eqGuard_at_int,binOp,Op.intBits,tg],.raw _⟩
 case eql=>subst hq;exact⟨.bool (decide (a=b)),by simp[eqGuard_at_int,binOp,Op.intCmp,AN],.raw _⟩
 case neq=>subst hq;exact⟨.bool (!decide (a=b)),by simp[eqGuard_at_int,binOp,Op.intCmp,bne,AN],.raw _⟩
 all_goals(subst hq;exact⟨_,by simp[eqGuard_at_int,binOp,Op.intArith,Op.intCmp];try rfl,.raw _⟩)
def SA(op:BinOp)(t:TypeId)(a b:ByteArray)(x y:Operand):j8 P w (do eqGuard op t x y (.string a) (.string b);binOp op t (.string a) (.string b)) (zv op a b):=by
 intro hq;cases op<;>simp only[zv]at hq ⊢
 case add=>
  have h0:¬(((a.size+b.size:Nat):Int)>IntKind.i64.max):=by rw[IntKind.max_i64];omega
  exact⟨_,by simp only[eqGuard_at_string,binOp,Op.stringOp,pure_bind,if_neg h0,Sem.run_pure],.raw _⟩
 case eql=>exact⟨_,by simp[eqGuard_at_string,binOp,Op.stringOp,wQ],.raw _⟩
 case neq=>exact⟨_,by simp[eqGuard_at_string,binOp,Op.stringOp,wQ],.raw _⟩
 case lss=>exact⟨_,by simp[eqGuard_at_string,binOp,Op.stringOp],.raw _⟩
 case gtr=>exact⟨_,by simp[eqGuard_at_string,binOp,Op.stringOp,wQ],.raw _⟩
 case leq=>exact⟨_,by simp[eqGuard_at_string,binOp,Op.stringOp,wQ],.raw _⟩
 case geq=>exact⟨_,by simp[eqGuard_at_string,binOp,Op.stringOp],.raw _⟩
 all_goals exact hq.elim
variable{t:TypeId}
def QK{m:String}(h:(oK P t m).isSome=true)(v:Value)(W:World):(nilAhead (P.types.size+Made.depth) t v m).run P W=.ok (some false) W:=by
 obtain⟨f,h⟩:=Option.isSome_iff_exists.1 h;unfold oK at h;split at h;rotate_left
 ·cases h
 rename_i ti e ht hu;split at h;rotate_left
 ·cases h
 rename_i r hr;split at h;rotate_left
 ·cases h
 rename_i hp;split at h;rotate_left
 ·cases h
 rename_i g hf;cases h;have Xs:r.path.toList=[]:=by have:=Array.isEmpty_iff.1 hp;rw[this]
 obtain⟨n,hn⟩:∃n,P.types.size+Made.depth=n+1:=⟨P.types.size+Made.depth-1,by have hd:=(by decide:Made.depth≠0);omega⟩;rw[hn];unfold nilAhead;simp only[Sem.run_bind,run_typeInfo W ht,Result.andThen_ok,hr,Xs,followBlind,Sem.run_pure,hf]
def MO(x:Operand){ρ:Operand->Value}(hx:ρ x=v)(h:ax w a v)(o:Oper)(ho:o.op=.nilCheck x):(qG P a).1->∃v',(execOp ρ o).run P w.toWorld=.ok (.value v') w.toWorld/\ax w (qG P a).2 v':=by
 intro hq;unfold qG at*;split at hq<;>try exact hq.elim
 ·cases h with
  |mv _ _ u h=>
   cases h with
   |iK _ _ u h=> refine⟨_,?_,.mv _ _ _ (.iK _ _ _ h)⟩;simp[execOp,ho,hx,QK hq]
 ·cases h with|ip _ ad vs hb hH D' hr=>exact⟨.pointer (some ad),by simp[execOp,ho,hx],.ip _ ad vs hb hH D' hr⟩
 ·cases h with|pt _ _ _ _ b t s hn=>exact⟨_,by simp[execOp,ho,hx],.pt _ _ _ _ b t s hn⟩
 all_goals(have:=db h;subst this;exact⟨_,by simp[execOp,ho,hx];try rfl,.raw _⟩)
def yQ(h:td P t=true):∃e,P.underlying t=some (.pointer e):=by unfold td at h;split at h<;>simp_all
def RT(h:x8 P t=true):P.underlying t=some .bool:=by unfold x8 at h;split at h<;>simp_all
def yT(h:sU P t=true):P.underlying t=some .string:=by unfold sU at h;split at h<;>simp_all
def oX(h:gW P t=true):∃e,P.underlying t=some (.slice e):=by unfold gW at h;split at h<;>simp_all
def qN{x y:Value}{r:Bool}(h:∀d,(Op.equalIn (d+1) t x y).run P w.toWorld=.ok r w.toWorld):(Op.equal t x y).run P w.toWorld=.ok r w.toWorld:=h 9999
def qR{ne:Bool}{x y:Operand}{a b:Value}{r:Bool}(hg:∀op,eqGuard op t x y a b=pure ())(h1:binOp .eql t a b=(do pure (.bool (<-Op.equal t a b))))(h2:binOp .neq t a b=(do pure (.bool (!(<-Op.equal t a b)))))
  (he:(Op.equal t a b).run P w.toWorld=.ok r w.toWorld):∃v,(do eqGuard (if ne then .neq else .eql) t x y a b;binOp (if ne then .neq else .eql) t a b:Sem Value).run P w.toWorld=.ok v w.toWorld/\ax w (.raw (.bool (ne ^^ r))) v:=by
 cases ne
 ·simp only[Bool.false_eq_true,if_false,hg,h1,Sem.run_bind,he,Sem.run_pure,Result.andThen_ok];exact⟨_,rfl,by simpa using ax.raw _⟩
 ·simp only[if_true,hg,h2,Sem.run_bind,he,Sem.run_pure,Result.andThen_ok];exact⟨_,rfl,by simpa using ax.raw _⟩
def H6(ne:Bool)(t:TypeId){b:AV}(x y:Operand)(ha:ax w a va)(hb:ax w b vb) :
  j8 P w (do eqGuard (if ne then .neq else .eql) t x y va vb;binOp (if ne then .neq else .eql) t va vb) (wV P ne t a b):=by
 intro hq;unfold wV at*;split at hq<;>try exact hq.elim
 ·have:=db ha;have:=db hb;subst_vars
  have ht:=RT hq;exact qR (fun op=>eqGuard_at_bool _ _ _ _ _ _) rfl rfl (qN (fun d=>by simp[Op.equalIn,run_underlying ht]))
 ·have:=db ha;have:=db hb;subst_vars
  obtain⟨e,ht⟩:=yQ hq;exact qR (fun op=>eqGuard_at_pointer _ _ _ _ _ _) rfl rfl (qN (fun d=>by simp[Op.equalIn,run_underlying ht]))
 ·have:=db ha;have:=db hb;subst_vars
  obtain⟨e,ht⟩:=yQ hq;rename_i pa;have:=qR (P:=P) (w:=w) (ne:=ne) (t:=t) (x:=x) (y:=y) (a:=.pointer (some pa)) (b:=.pointer none) (r:=false) (fun op=>eqGuard_at_pointer _ _ _ _ _ _) rfl rfl (qN (fun d=>by simp[Op.equalIn,run_underlying ht]));simpa using this
 ·have:=db hb;subst_vars
  obtain⟨e,ht⟩:=yQ hq;cases ha with|ip cs ad vs _ _ _ _=>
  have:=qR (P:=P) (w:=w) (ne:=ne) (t:=t) (x:=x) (y:=y) (a:=.pointer (some ad)) (b:=.pointer none) (r:=false) (fun op=>eqGuard_at_pointer _ _ _ _ _ _) rfl rfl (qN (fun d=>by simp[Op.equalIn,run_underlying ht]));simpa using this
 ·have:=db hb;subst_vars
  obtain⟨e,ht⟩:=yQ hq;rename_i i m k j;cases ha with|pt _ _ _ _ bb tt ss _=>
  have:=qR (P:=P) (w:=w) (ne:=ne) (t:=t) (x:=x) (y:=y) (a:=.pointer (some ⟨bb,k*ss+j,none⟩)) (b:=.pointer none) (r:=false) (fun op=>eqGuard_at_pointer _ _ _ _ _ _) rfl rfl (qN (fun d=>by simp[Op.equalIn,run_underlying ht]));simpa using this
 ·have:=db ha;have:=db hb;subst_vars
  obtain⟨e,ht⟩:=oX hq;exact qR (fun op=>eqGuard_at_slice _ _ _ _ _ _ _ _) rfl rfl (qN (fun d=>by simp[Op.equalIn,run_underlying ht]))
 ·have:=db ha;have:=db hb;subst_vars
  obtain⟨e,ht⟩:=oX hq;rename_i pa n c m d;have:=qR (P:=P) (w:=w) (ne:=ne) (t:=t) (x:=x) (y:=y) (a:=.slice (some pa) n c) (b:=.slice none m d) (r:=false) (fun op=>eqGuard_at_slice _ _ _ _ _ _ _ _) rfl rfl (qN (fun d=>by simp[Op.equalIn,run_underlying ht]));simpa using this
 ·have:=db hb;subst_vars
  obtain⟨hq,Vu⟩:=hq;obtain⟨e,ht⟩:=oX hq;rename_i css _ m d;cases ha with
  |gG=>exact(Vu rfl).elim
  |sl _ _ _ a c vs _ _ _ _ _ _ _ _=> have:=qR (P:=P) (w:=w) (ne:=ne) (t:=t) (x:=x) (y:=y) (a:=.slice (some a) css.length c) (b:=.slice none m d) (r:=false) (fun op=>eqGuard_at_slice _ _ _ _ _ _ _ _) rfl rfl (qN (fun d=>by simp[Op.equalIn,run_underlying ht]));simpa using this
 ·split at hq
  ·rename_i ks hks;exact Mz hks hq.1 hq.2.1 hq.2.2 ha hb
  ·exact hq.elim
def G5(op:BinOp)(t:TypeId){b:AV}(x y:Operand)(ha:ax w a va)(hb:ax w b vb) :
  j8 P w (do eqGuard op t x y va vb;binOp op t va vb) (fI P op t a b):=by
 unfold fI;split
 ·have:=db ha;have:=db hb;subst_vars;exact L3 op t _ _ _ _ x y
 ·have:=db ha;have:=db hb;subst_vars;exact SA op t _ _ x y
 ·split
  ·exact H6 false t x y ha hb
  ·exact H6 true t x y ha hb
  ·exact Fb
def O5(op:UnOp)(h:ax w a v):j8 P w (Op.unary op v) (sf op a):=by
 intro hq;unfold sf at*;split at hq<;>try exact hq.elim
 ·have:=db h;subst this;exact⟨_,by simp[Op.unary],.raw _⟩
 ·have:=db h;subst this;exact⟨_,by simp[Op.unary,Op.intArith],.raw _⟩
def NA(t:TypeId)(h:ax w a v)(hw:aJ w H):j8 P w (Instr.loadAt t v) (o5 P H t a):=by
 intro hq;unfold o5 at*;split at hq<;>try exact hq.elim
 ·rename_i c cs k e1 e2 e3;exact FU h hw e1 hq.1 e2 e3 hq.2.1 hq.2.2
 ·rename_i c cs k e1 e2 e3;have:=FU (P:=P) h hw e1 hq.1 e2 e3 hq.2.1 hq.2.2;simpa[uh]using this
def Gf{f off:Nat}(h:cB P t f=some off):∃fs fd k,P.underlying t=some (.struct fs)/\fs[f]?=some fd/\dc P fd.type=some (k+1)/\fd.offset=off:=by
 unfold cB at h;split at h
 ·rename_i fs hu;split at h
  ·rename_i fd hf;split at h
   ·rename_i k hk;exact⟨fs,fd,k,hu,hf,hk,by simpa using h⟩
   ·cases h
  ·cases h
 ·cases h
def OI(t:TypeId)(f:Nat)(h:ax w a v):j8 P w (Instr.fieldAt t v f) (sD P t a f):=by
 intro hq;unfold sD at*;split at hq<;>try exact hq.elim
 ·rename_i cs off e;obtain⟨fs,fd,k,hu,hf,hk,rfl⟩:=Gf e;cases h with|ip _ ad vs hb hH D' hr=>
  refine⟨.pointer (some (ad.add fd.offset)),?_,.ip _ _ (fun j=>vs (fd.offset+j)) (by rw[pK];exact hb) (by rw[pK];exact hH) (fun j hj=>?_) (fun j u hu=>?_)⟩
  ·simp[Instr.fieldAt,run_underlying hu,hf,Instr.sureAddr,fieldPlace,lL hk]
  ·rw[xF];exact D' _ (by simp at hj;omega)
  ·rw[List.getElem?_drop]at hu;exact hr _ _ hu
 ·rename_i i m q j off e;obtain⟨fs,fd,k,hu,hf,hk,rfl⟩:=Gf e;cases h with|pt _ _ _ _ b t s hn=>
  refine⟨.pointer (some ⟨b,q*s+j+fd.offset,none⟩),?_,?_⟩
  ·simp[Instr.fieldAt,run_underlying hu,hf,Instr.sureAddr,fieldPlace,lL hk,jq]
  ·rw[Nat.add_assoc];exact .pt i m q (j+fd.offset) b t s hn
def TL{ft:TypeId}{f off:Nat}(h:wm P t f=some (ft,off)):∃fs fd,P.underlying t=some (.struct fs)/\fs[f]?=some fd/\fd.type=ft/\fd.offset=off:=by
 unfold wm at h;split at h
 ·rename_i fs hu;simp only[Option.map_eq_some_iff,Prod.mk.injEq]at h;obtain⟨fd,hf,h1,h2⟩:=h;exact⟨fs,fd,hu,hf,h1,h2⟩
 ·cases h
def TQ(t:TypeId){cs:List AV}{vs:Array Value}(hl:cs.length=vs.size)(hr:∀(i:Nat) a v,cs[i]?=some a->vs[i]?=some v->ax w a v)(off:Nat):j8 P w (part t vs off) (yI P t cs off):=by
 intro hq;unfold yI at*;split at hq<;>try exact hq.elim
 ·rename_i k e1 e2;simp only at hq;refine⟨.agg (vs.extract off (off+k)),by simp[part,xq e1,lL e2],.agg _ _ jF fun i a v ha hv=>?_⟩;rw[List.getElem?_take]at ha;split at ha
  ·rw[List.getElem?_drop]at ha;refine hr _ a v ha ?_;rw[Array.getElem?_extract]at hv;split at hv<;>simp_all
  ·cases ha
 ·rename_i k e1 e2;simp only at hq;have h1:vs[off]?=some (vs[off]' jB):=Array.getElem?_eq_getElem jB;refine⟨vs[off]' jB,by simp[part,xq e1,h1],hr off _ _ ?_ h1⟩;simp[List.getElem?_eq_getElem hq]
def Ug(t:TypeId)(f:Nat)(h:ax w a v):j8 P w (Instr.field t v f) (uW P t a f):=by
 unfold uW;split
 ·rename_i cs ft off e;obtain⟨fs,fd,hu,hf,rfl,rfl⟩:=TL e;cases h with|agg _ vs hl hr=> intro hq;obtain⟨v,h1,h2⟩:=TQ (P:=P) fd.type hl hr fd.offset hq;exact⟨v,by simpa[Instr.field,run_underlying hu,hf,asAgg]using h1,h2⟩
 ·exact Fb
def oI{k:Nat}(h:iv P t=some k):∃e,P.underlying t=some (.slice e)/\dc P e=some k:=by
 unfold iv ir at h;split at h
 ·rename_i e hu;exact⟨e,hu,by simpa using h⟩
 ·cases h
def Ji{n k:Nat}(h:zb P t=some (n,k)):∃e,P.underlying t=some (.array n e)/\dc P e=some k:=by
 unfold zb at h;split at h
 ·rename_i len e hu;simp only[Option.map_eq_some_iff,Prod.mk.injEq]at h;obtain⟨s,h1,rfl,rfl⟩:=h;exact⟨e,hu,h1⟩
 ·cases h
def RD(t:TypeId){i:AV}{vi:Value}(ha:ax w a va)(hi:ax w i vi):j8 P w (Instr.indexAt t va vi) (tc P t a i):=by
 intro hq;unfold tc at*;split at hq<;>try exact hq.elim
 ·rename_i x sz css d k j;have:=db hi;subst this;obtain⟨e,hu,hs⟩:=oI hq.1;have h0:=hq.2.1;have h1:=hq.2.2;cases ha with
  |gG=>simp at h1;omega
  |sl _ _ _ ad c vs hn hc hx Uu hb hH D' hr=>
   have VB:=vy Uu (show j.toNat<css.length from jB);have hd:css.getD j.toNat d=css.getD j.toNat []:=by simp[show j.toNat<css.length from jB]
   rw[hd];refine⟨.pointer (some (ad.add (j.toNat*sz))),?_,.ip _ _ (fun m=>vs (j.toNat*sz+m)) (by rw[pK];exact hb) (by rw[pK];exact hH) (fun m hm=>?_) (fun m u hu=>?_)⟩
   ·simp[Instr.indexAt,asIntOf,run_underlying hu,h0,h1,lL hs]
   ·rw[xF];exact D' _ m jB jB
   ·exact hr _ m u jB hu
 ·rename_i d m sz n k j;have:=db hi;subst this;obtain⟨e,hu,hs⟩:=oI hq.1;have h0:=hq.2.1;have h1:=hq.2.2;cases ha with
  |iJ=>simp at h1;omega
  |rs _ _ _ _ b t c hn hc Uq V4=> refine⟨.pointer (some ⟨b,j.toNat*sz,none⟩),?_,.pt d m j.toNat 0 b t sz hn⟩;simp[Instr.indexAt,asIntOf,run_underlying hu,h0,h1,lL hs,jq]
 ·rename_i d m sz n k j;have:=db hi;subst this;obtain⟨e,hu,hs⟩:=oI hq.1;have h0:=hq.2.1;have h1:=hq.2.2;cases ha with
  |rc _ _ _ _ b t hn hc Uq V4=> refine⟨.pointer (some ⟨b,j.toNat*sz,none⟩),?_,.pt d m j.toNat 0 b t sz hn⟩;simp[Instr.indexAt,asIntOf,run_underlying hu,h0,h1,lL hs,jq]
 ·rename_i d m sz o n k j;have:=db hi;subst this;obtain⟨e,hu,hs⟩:=oI hq.1;have h0:=hq.2.1;have h1:=hq.2.2;cases ha with
  |jn=>simp at h1;omega
  |rv _ _ _ _ _ b t c hn Uq=> refine⟨.pointer (some ⟨b,(o+j.toNat)*sz,none⟩),?_,.pt d m (o+j.toNat) 0 b t sz hn⟩;simp[Instr.indexAt,asIntOf,run_underlying hu,h0,h1,lL hs,jq,Nat.add_mul]
 ·rename_i d m k j kk i;have:=db hi;subst this;unfold zG at*;split at hq
  ·rename_i len s e;obtain⟨el,hu,hs⟩:=Ji e;cases ha with
   |pt _ _ _ _ b t sz hn=> refine⟨.pointer (some ⟨b,k*sz+(j+i.toNat*s),none⟩),?_,.pt d m k _ b t sz hn⟩;simp[Instr.indexAt,asIntOf,run_underlying hu,hq.1,hq.2,lL hs,jq,Instr.sureAddr,Nat.add_assoc]
  ·exact hq.elim
 ·rename_i cs kk i;have:=db hi;subst this;unfold zG at*;split at hq
  ·rename_i len s e;obtain⟨el,hu,hs⟩:=Ji e;cases ha with
   |ip _ ad vs hb hH D' hr=>
    refine⟨.pointer (some (ad.add (i.toNat*s))),?_,.ip _ _ (fun m=>vs (i.toNat*s+m)) (by rw[pK];exact hb) (by rw[pK];exact hH) (fun m hm=>?_) (fun m u hu=>?_)⟩
    ·simp[Instr.indexAt,asIntOf,run_underlying hu,hq.1,hq.2,lL hs,Instr.sureAddr]
    ·rw[xF];exact D' _ (by simp at hm;omega)
    ·exact hr _ u (by rwa [List.getElem?_drop]at hu)
  ·exact hq.elim
def TS(t:TypeId){i:AV}{vi:Value}(ha:ax w a va)(hi:ax w i vi):j8 P w (Instr.index t va vi) (sX P t a i):=by
 intro hq;unfold sX at*;split at hq<;>try exact hq.elim
 rename_i s k j;have:=db hi;have:=db ha;subst_vars
 have ht:=yT hq.1;have h0:=hq.2.1;have h1:j.toNat<s.size:=by have:=hq.2.2;omega
 refine⟨.int .u8 (eO s j),?_,.raw _⟩;have h2:s[j.toNat]?=some s[j.toNat]:=by simp[h1]
 have h3:eO s j=(s[j.toNat].toNat:Int):=by have h4:s.data[j.toNat]?=some s[j.toNat]:=Array.getElem?_eq_getElem h1;simp only[eO,h4,Option.getD_some]
 simp[Instr.index,asIntOf,run_underlying ht,h0,h2,h3]
def Tn(h:ax w a v)(i:Nat):j8 P w (Instr.extract v i) (vO a i):=by
 intro hq;unfold vO at*;split at hq<;>try exact hq.elim
 rename_i cs;cases h with|aQ _ vs hl hr=>
 simp only at hq;have h1:vs[i]?=some (vs[i]' jB):=Array.getElem?_eq_getElem jB;refine⟨vs[i]' jB,by simp[Instr.extract,h1],hr i _ _ ?_ h1⟩;simp[List.getElem?_eq_getElem hq]
def Uh(fn:Fn){a b:List AV}{va vb:List Value}(ha:cf w a va)(hb:cf w b vb):j8 P w (Instr.makeFunc fn va.toArray vb.toArray) (uS fn a b):=by
 intro hq;unfold uS at*;split at hq<;>try exact hq.elim
 ·rename_i f;have:va=[]:=by have:=ha.1;simpa using this.symm
  subst this;exact⟨.func (.func f) #[] vb.toArray,by simp[Instr.makeFunc],.dW f _ _ (by rw[hb.1];simp) (fun i a v h1 h2=>hb.2 i a v h1 (by simpa using h2))⟩
 ·rename_i f x l;have hq:b=[]:=hq;subst hq;have:vb=[]:=by have:=hb.1;simpa using this.symm
  subst this;exact⟨.func (.func f) va.toArray #[],by simp[Instr.makeFunc],.bd f _ _ (by rw[ha.1];simp) (fun i a v h1 h2=>ha.2 i a v h1 (by simpa using h2))⟩
 ·rename_i m x;have hq:b=[]:=hq;subst hq;have:vb=[]:=by have:=hb.1;simpa using this.symm
  subst this;obtain⟨u,rfl⟩:∃u,va=[u]:=by
   have:=ha.1;match va,this with
   |[u],_=>exact⟨u,rfl⟩
  exact⟨.func (.method m) #[u] #[],by simp[Instr.makeFunc],.mv m _ _ (ha.2 0 _ _ rfl rfl)⟩
def Qh(t:TypeId)(h:ax w a v):j8 P w (Instr.makeInterface t v) (ve P t a):=by
 intro hq;unfold ve at*;split at hq<;>try exact hq.elim
 ·rename_i u d e1 e2;have:=db h;subst this;refine⟨.iface t v,?_,.raw _⟩;simp only[Instr.makeInterface,Sem.run_bind,run_underlying e2,Result.andThen_ok];cases d<;>first|rfl|(simp[Aj,e2]at e1)
 ·rename_i d _ e1 hu;refine⟨.iface t v,?_,.iK t _ v h⟩;simp only[Instr.makeInterface,Sem.run_bind,run_underlying hu,Result.andThen_ok];cases d<;>first|rfl|(simp[Aj,hu]at e1)
def Ow(h:wC P t=true):∃k e,P.underlying t=some (.map k e):=by
 unfold wC at h;split at h
 ·exact⟨_,_,by assumption⟩
 ·cases h
theorem ED:∀(n:Nat) (ks vs:List Value),(iQ n ks vs).length=min ks.length vs.length
 |n,[],vs=>by simp[iQ]
 |n,k::ks,[]=>by simp[iQ]
 |n,k::ks,v::vs=>by simp[iQ,ED (n+1) ks vs]
def QF(ty t:TypeId)(ts:List TypeId)(vs:List Value)(hw:aJ w H)(h:ax w a v):j8 P w (Builtin.len_ (t::ts).toArray ty (v::vs).toArray) (uB P H t a):=by
 intro hq;unfold uB at*;split at hq<;>try exact hq.elim
 ·split at hq<;>try exact hq.elim
  rename_i hm;rw[if_pos hm];split at hq<;>try exact hq.elim
  rename_i ks vs hi;obtain⟨k,e,ht⟩:=Ow hq;cases h with
  |mr _ b t' s hn=>
   obtain⟨hok,z,hz,UU⟩:=hw.rows _ _ hi;have:z=.at b t' s:=by have hz:w.nm _ 0=some z:=hz;rw[hn]at hz;cases hz;rfl
   subst this;obtain⟨_,cur,hh,Ve,_⟩:=UU;have hh:w.heap[b]?=some (.map (iQ 0 ks cur.toList).toArray ks.length):=hh;have Ve:cur.size=vs.length:=Ve;have hok:ks.length=vs.length:=hok;refine⟨_,?_,.raw _⟩;simp[Builtin.len_,run_underlying ht,MapKept.run_getObj_map hh,goInt,ED,hok,Ve]
 ·obtain⟨e,ht⟩:=oX hq;cases h<;>exact⟨_,by simp[Builtin.len_,run_underlying ht,goInt];try rfl,.raw _⟩
 ·obtain⟨e,ht⟩:=oX hq;cases h<;>exact⟨_,by simp[Builtin.len_,run_underlying ht,goInt];try rfl,.raw _⟩
 ·obtain⟨e,ht⟩:=oX hq;cases h<;>exact⟨_,by simp[Builtin.len_,run_underlying ht,goInt];try rfl,.raw _⟩
 ·obtain⟨e,ht⟩:=oX hq;cases h<;>exact⟨_,by simp[Builtin.len_,run_underlying ht,goInt];try rfl,.raw _⟩
 ·obtain⟨e,ht⟩:=oX hq;have:=db h;subst this;exact⟨_,by simp[Builtin.len_,run_underlying ht,goInt],.raw _⟩
 ·have ht:=yT hq;have:=db h;subst this;exact⟨_,by simp[Builtin.len_,run_underlying ht,goInt],.raw _⟩
def Sn(ty t:TypeId)(ts:List TypeId)(vs:List Value)(h:ax w a v):j8 P w (Builtin.cap_ (t::ts).toArray ty (v::vs).toArray) (yC P t a):=by
 intro hq;unfold yC at*;split at hq<;>try exact hq.elim
 ·obtain⟨e,ht⟩:=oX hq;cases h with
  |gG _ _ _ c hx=>have:=hx rfl;subst this;exact⟨_,by simp[Builtin.cap_,run_underlying ht,goInt],.raw _⟩
  |sl _ _ _ _ c _ _ _ hx=>have:=(hx rfl).1;subst this;exact⟨_,by simp[Builtin.cap_,run_underlying ht,goInt],.raw _⟩
 ·obtain⟨e,ht⟩:=oX hq;cases h;exact⟨_,by simp[Builtin.cap_,run_underlying ht,goInt],.raw _⟩
 ·obtain⟨e,ht⟩:=oX hq;have:=db h;subst this;exact⟨_,by simp[Builtin.cap_,run_underlying ht,goInt],.raw _⟩
end
end Go.Gd
namespace Go.Gd
open Go
abbrev UA:=List AV->Hp->Prop
abbrev UB:=AV->Hp->Prop
abbrev UC:=List (List AV)
abbrev UD:=List (Nat×Row)
abbrev UE:=List AV
abbrev UF:=List (List Int)
abbrev UG:=List Int
abbrev UH:=List Nat
abbrev UI:=ByteArray
abbrev UJ:=TypeId
abbrev UK:=Operand->AV
abbrev UL:=Array Value
abbrev UM:=List Value
abbrev UO:=Nat->Bool
abbrev UP:=Program
abbrev UQ:=Nat->Row
abbrev UR:=Nat×Row
end Go.Gd

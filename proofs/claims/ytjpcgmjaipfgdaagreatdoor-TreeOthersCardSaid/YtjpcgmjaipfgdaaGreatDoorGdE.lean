/- Lemmas. No conditions. -/
import Derived.Tactics
import Derived.Lib.ItoaNum
import Derived.Below
import Derived.Laws.AppendOwn
import Derived.Laws.Cells
import Derived.Deep.LoopGhost
import Derived.Orders
import Derived.Scope
import Derived.Laws.Slices
import Derived.WalkKit
import Derived.Laws.StructEq
set_option linter.all false
namespace Go.Gd
open Go
variable{p:Prop}
def jB(h:p:=by first|(omega)|fail):p:=h
def jC(h:p:=by first|(decide)|fail):p:=h
def jD(h:p:=by first|(simp only[go_sem])|fail):p:=h
def jE(h:p:=by first|(simp)|fail):p:=h
def jF(h:p:=by first|(simp;omega)|fail):p:=h
def jG(h:p:=by first|(kernel_rfl)|fail):p:=h
def jH(h:p:=by first|(intro;omega)|fail):p:=h
def jJ(h:p:=by first|((try simp only);omega)|fail):p:=h
def jz(h:p:=by first|contradiction|omega|fail):p:=h
def jl{n:Nat}:n<=n:=Nat.le_refl n
def vH(h:p:=by first|(simp only[go_sem,↓reduceIte,Int.reduceEq,Int.reduceLE,Int.reduceLT,Int.reduceNe,Int.reduceToNat,Nat.reduceMul,Nat.reduceAdd,Nat.reduceLeDiff,Nat.reduceSub,Nat.reduceEqDiff,Nat.reduceBEq,List.nodup_cons,List.nodup_nil,List.mem_cons,List.not_mem_nil,List.mem_nil_iff];done)|fail):p:=h
def uc(h:p:=by first|(simp only[go_sem,↓reduceIte,Int.reduceEq,Int.reduceLE,Int.reduceLT,Int.reduceNe,Int.reduceToNat,Nat.reduceMul,Nat.reduceAdd,Nat.reduceLeDiff,Nat.reduceSub,Nat.reduceEqDiff,Nat.reduceBEq,List.nodup_cons,List.nodup_nil,List.mem_cons,List.not_mem_nil,List.mem_nil_iff];rfl)|fail):p:=h
def jI:True:=⟨⟩
def jN {α:Sort _} {c:Prop} [Decidable c] {a b:α} (h:¬c:=by omega):(if c then a else b)=b:=if_neg h
def jP {α:Sort _} {c:Prop} [Decidable c] {a b:α} (h:c:=by omega):(if c then a else b)=a:=if_pos h
def jA {a b:Prop}(h:a)(k:b):a∧b:=⟨h,k⟩
def AQ:List (Nat×List Value):=[(0,Lib.pow10Tab.map (Value.int .u64))]
def jV:List Nat:=[229,237,241,354]
inductive AV where
 |raw (v:Value)
 |any
 |agg (cs:List AV)
 |aQ (vs:List AV)
 |sl (x:Bool) (sz:Nat) (css:List (List AV)) (d:List AV)
 |ip (cs:List AV)
 |gd (p:Bool) (v:AV)
 |dP (f:FuncId) (cs:List AV)
 |pt (i m k j:Nat)
 |rs (i m sz n:Nat)
 |rc (i m sz n:Nat)
 |rv (i m sz o n:Nat)
 |mr (i:Nat)
 |bd (f:FuncId) (fs:List AV)
 |iG (t:TypeId) (v:AV)
 |mv (m:String) (v:AV)
instance:Inhabited AV:=⟨.any⟩
mutual
def AV.all(q:Nat->Bool):AV->Bool
 |.agg cs=>aX q cs
 |.aQ cs=>aX q cs
 |.dP _ cs=>aX q cs
 |.bd _ fs=>aX q fs
 |.iG _ v=>v.all q
 |.mv _ v=>v.all q
 |.gd _ v=>v.all q
 |.pt i _ _ _=>q i
 |.rs i _ _ _=>q i
 |.rc i _ _ _=>q i
 |.rv i _ _ _ _=>q i
 |.mr i=>q i
 |.raw _=>true
 |.any=>true
 |.sl _ _ _ _=>true
 |.ip _=>true
def aX(q:Nat->Bool):List AV->Bool
 |[]=>true
 |a::l=>a.all q && aX q l
end
theorem lm{q:Nat->Bool}:∀{l:List AV},aX q l=true->∀{i:Nat} {a:AV},l[i]?=some a->a.all q=true
 |[],_,i,a,h=>by simp at h
 |x::l,hl,i,a,h=>by
  simp only[aX,Bool.and_eq_true]at hl;cases i with
  |zero=>simp at h;subst h;exact hl.1
  |succ i=>exact lm hl.2 (by simpa using h)
mutual
theorem qu{q p:Nat->Bool}(hq:∀i,q i=true->p i=true):∀a:AV,a.all q=true->a.all p=true
 |.agg cs,h=>by simp only[AV.all]at h ⊢;exact fS hq cs h
 |.aQ cs,h=>by simp only[AV.all]at h ⊢;exact fS hq cs h
 |.dP _ cs,h=>by simp only[AV.all]at h ⊢;exact fS hq cs h
 |.bd _ fs,h=>by simp only[AV.all]at h ⊢;exact fS hq fs h
 |.iG _ v,h=>by simp only[AV.all]at h ⊢;exact qu hq v h
 |.mv _ v,h=>by simp only[AV.all]at h ⊢;exact qu hq v h
 |.gd _ v,h=>by simp only[AV.all]at h ⊢;exact qu hq v h
 |.pt i _ _ _,h=>hq i (by simpa only[AV.all]using h)
 |.rs i _ _ _,h=>hq i (by simpa only[AV.all]using h)
 |.rc i _ _ _,h=>hq i (by simpa only[AV.all]using h)
 |.rv i _ _ _ _,h=>hq i (by simpa only[AV.all]using h)
 |.mr i,h=>hq i (by simpa only[AV.all]using h)
 |.raw _,_=>by simp only[AV.all]
 |.any,_=>by simp only[AV.all]
 |.sl _ _ _ _,_=>by simp only[AV.all]
 |.ip _,_=>by simp only[AV.all]
theorem fS{q p:Nat->Bool}(hq:∀i,q i=true->p i=true):∀l:List AV,aX q l=true->aX p l=true
 |[],_=>rfl
 |a::l,h=>by simp only[aX,Bool.and_eq_true]at h ⊢;exact⟨qu hq a h.1,fS hq l h.2⟩
end
mutual
theorem ny:∀a:AV,a.all (fun _=>true)=true
 |.agg cs=>by simp only[AV.all];exact uS cs
 |.aQ cs=>by simp only[AV.all];exact uS cs
 |.dP _ cs=>by simp only[AV.all];exact uS cs
 |.bd _ fs=>by simp only[AV.all];exact uS fs
 |.iG _ v=>by simp only[AV.all];exact ny v
 |.mv _ v=>by simp only[AV.all];exact ny v
 |.gd _ v=>by simp only[AV.all];exact ny v
 |.pt i _ _ _=>by simp only[AV.all]
 |.rs i _ _ _=>by simp only[AV.all]
 |.rc i _ _ _=>by simp only[AV.all]
 |.rv i _ _ _ _=>by simp only[AV.all]
 |.mr i=>by simp only[AV.all]
 |.raw _=>by simp only[AV.all]
 |.any=>by simp only[AV.all]
 |.sl _ _ _ _=>by simp only[AV.all]
 |.ip _=>by simp only[AV.all]
theorem uS:∀l:List AV,aX (fun _=>true) l=true
 |[]=>rfl
 |a::l=>by simp only[aX,Bool.and_eq_true];exact⟨ny a,uS l⟩
end
inductive Row where
 |var (t:TypeId) (cs:List AV)
 |aG (e:TypeId) (sz:Nat) (css:List (List AV))
 |mp (ks:List Value) (vs:List AV)
def Row.fN:Row->Nat
 |.var _ _=>0
 |.aG _ _ css=>css.length
 |.mp _ _=>0
def Row.elem:Row->TypeId
 |.var t _=>t
 |.aG e _ _=>e
 |.mp _ _=>0
def Row.bB:Row->Nat
 |.var _ _=>0
 |.aG _ sz _=>sz
 |.mp _ _=>0
def Row.cells:Row->List AV
 |.var _ cs=>cs
 |.aG _ _ css=>css.flatten
 |.mp _ vs=>vs
def Row.ok:Row->Prop
 |.var _ _=>True
 |.aG _ sz css=>0<sz/\∀cs∈css,cs.length=sz
 |.mp ks vs=>ks.length=vs.length
def iO:Nat->List Value->List Value->List MapEntry
 |n,k::ks,v::vs=>⟨k,v,n⟩::iO (n+1) ks vs
 |_,_,_=>[]
def Row.obj(r:Row)(cur:Array Value):Obj:=match r with
 |.mp ks _=>.map (iO 0 ks cur.toList).toArray ks.length
 |.var t _=>.cells cur t (0,0)
 |.aG e _ _=>.cells cur e (0,0)
def Row.fit(r:Row)(n t:Nat):Prop:=match r with
 |.mp _ vs=>n=vs.length
 |.var ty cs=>n=t/\(Row.var ty cs).cells.length<=t
 |.aG e sz css=>n=t/\(Row.aG e sz css).cells.length<=t
def Row.zU:Row->Bool
 |.mp _ _=>false
 |_=>true
variable{r:Row}
def Row.sI(h:r.zU=true)(cur:Array Value):r.obj cur=.cells cur r.elem (0,0):=by
 cases r with
 |var t cs=>rfl
 |aG e sz css=>rfl
 |mp ks vs=>cases h
def Row.tg(h:r.zU=true)(n t:Nat):r.fit n t=(n=t/\r.cells.length<=t):=by
 cases r with
 |var t cs=>rfl
 |aG e sz css=>rfl
 |mp ks vs=>cases h
structure Hp where
 B:List Nat
 l:List (Nat×Row)
def aA:List (Nat×Row)->Nat->Option Row
 |[],_=>none
 |(j,r)::l,i=>if i=j then some r else aA l i
def bh:List (Nat×Row)->Nat->Row->List (Nat×Row)
 |[],i,r=>[(i,r)]
 |(j,s)::l,i,r=>if i=j then(i,r)::l else(j,s)::bh l i r
def pH:List (Nat×Row)->Nat->List (Nat×Row)
 |[],_=>[]
 |(j,s)::l,i=>if i=j then pH l i else(j,s)::pH l i
def Hp.get(H:Hp)(i:Nat):Option Row:=aA H.l i
def Hp.put(H:Hp)(i:Nat)(r:Row):Hp:=⟨H.B,bh H.l i r⟩
theorem bO:∀(l:List (Nat×Row)) (i j:Nat) (r:Row),aA (bh l i r) j=if j=i then some r else aA l j
 |[],i,j,r=>by simp[bh,aA]
 |(k,s)::l,i,j,r=>by
  unfold bh;split
  ·rename_i h;subst h;simp only[aA];split<;>rfl
  ·rename_i h;simp only[aA];split
   ·rename_i h2;subst h2;rw[if_neg (fun e=>h e.symm)]
   ·exact bO l i j r
theorem Cp:∀(l:List (Nat×Row)) (i j:Nat),aA (pH l i) j=if j=i then none else aA l j
 |[],i,j=>by simp[pH,aA]
 |(k,s)::l,i,j=>by
  unfold pH;split
  ·rename_i h;subst h;rw[Cp l i j];simp only[aA];split<;>rfl
  ·rename_i h;simp only[aA];split
   ·rename_i h2;subst h2;rw[if_neg (fun e=>h e.symm)]
   ·exact Cp l i j
def Hp.bj(H:Hp)(i j:Nat)(r:Row):(H.put i r).get j=if j=i then some r else H.get j:=bO _ _ _ _
inductive Rz where
 |nil
 |at(b t s:Nat)
structure NW extends World where
 O:Nat->Prop
 nm:Nat->Nat->Option Rz
instance:Coe NW World:=⟨NW.toWorld⟩
@[reducible] def NW.bare(w:NW):NW:={ w with nm:=fun _ _=>none }
def Td(w:World)(b:Nat):Prop:=∃cur el,w.heap[b]?=some (.cells cur el (0,0))
inductive ax:NW->AV->Value->Prop
 |raw {w:NW} (v:Value):ax w (.raw v) v
 |any {w:NW} (v:Value):ax w .any v
 |agg {w:NW} (cs:List AV) (vs:Array Value) (hl:cs.length=vs.size) (h:∀(i:Nat) a v,cs[i]?=some a->vs[i]?=some v->ax w a v):ax w (.agg cs) (.agg vs)
 |aQ {w:NW} (cs:List AV) (vs:Array Value) (hl:cs.length=vs.size) (h:∀(i:Nat) a v,cs[i]?=some a->vs[i]?=some v->ax w a v):ax w (.aQ cs) (.tuple vs)
 |gu {w:NW} {d:List AV} (x:Bool) (sz:Nat) (A:Option Addr) (c:Nat) (hx:x=true->c=0):ax w (.sl x sz [] d) (.slice A 0 c)
 |sl {w:NW} {d:List AV} (x:Bool) (sz:Nat) (css:List (List AV)) (a:Addr) (c:Nat) (vs:Nat->Value) (hn:0<css.length) (hc:css.length<=c) (hx:x=true->c=css.length/\Td w a.block) (TU:∀cs∈css,cs.length=sz)
   (hb:a.block<w.heap.size) (hH:¬w.O a.block) (D':∀i j,i<css.length->j<sz->w.cell? (a.add (i*sz+j))=some (vs (i*sz+j)))
   (h:∀i (j:Nat) u,i<css.length->(css.getD i [])[j]?=some u->ax w.bare u (vs (i*sz+j))):ax w (.sl x sz css d) (.slice (some a) css.length c)
 |ip {w:NW} (cs:List AV) (a:Addr) (vs:Nat->Value) (hb:a.block<w.heap.size) (hH:¬w.O a.block) (D':∀j,j<cs.length->w.cell? (a.add j)=some (vs j))
   (h:∀(j:Nat) u,cs[j]?=some u->ax w.bare u (vs j)):ax w (.ip cs) (.pointer (some a))
 |gd {w:NW} (p:Bool) (a:AV) (v:Value) (h:p=true->ax w a v) (hu:p=false->v=undef):ax w (.gd p a) v
 |dP {w:NW} (f:FuncId) (cs:List AV) (vs:Array Value) (hl:cs.length=vs.size) (h:∀(i:Nat) a v,cs[i]?=some a->vs[i]?=some v->ax w a v):ax w (.dP f cs) (.func (.func f) #[] vs)
 |pt {w:NW} (i m k j b t s:Nat) (h:w.nm i m=some (.at b t s)):ax w (.pt i m k j) (.pointer (some ⟨b,k*s+j,none⟩))
 |iE {w:NW} (i m sz:Nat) (A:Option Addr) (h:w.nm i m=some .nil):ax w (.rs i m sz 0) (.slice A 0 0)
 |rs {w:NW} (i m sz n b t c:Nat) (h:w.nm i m=some (.at b t sz)) (hc:c*sz=t) (hn:n<=c) (hs:0<sz):ax w (.rs i m sz n) (.slice (some ⟨b,0,none⟩) n c)
 |rc {w:NW} (i m sz n b t:Nat) (h:w.nm i m=some (.at b t sz)) (hc:m*sz=t) (hn:n<=m) (hs:0<sz):ax w (.rc i m sz n) (.slice (some ⟨b,0,none⟩) n m)
 |jb {w:NW} (i m sz o c:Nat) (A:Option Addr):ax w (.rv i m sz o 0) (.slice A 0 c)
 |rv {w:NW} (i m sz o n b t c:Nat) (h:w.nm i m=some (.at b t sz)) (hn:n<=c):ax w (.rv i m sz o n) (.slice (some ⟨b,o*sz,none⟩) n c)
 |mr {w:NW} (i b t s:Nat) (h:w.nm i 0=some (.at b t s)):ax w (.mr i) (.map (some b))
 |bd {w:NW} (f:FuncId) (fs:List AV) (vs:Array Value) (hl:fs.length=vs.size) (h:∀(i:Nat) a v,fs[i]?=some a->vs[i]?=some v->ax w a v):ax w (.bd f fs) (.func (.func f) vs #[])
 |iG {w:NW} (t:TypeId) (a:AV) (v:Value) (h:ax w a v):ax w (.iG t a) (.iface t v)
 |mv {w:NW} (m:String) (a:AV) (v:Value) (h:ax w a v):ax w (.mv m a) (.func (.method m) #[v] #[])
def bY(w:NW)(cs:List AV)(vs:List Value):Prop:=cs.length=vs.length/\∀(i:Nat) a v,cs[i]?=some a->vs[i]?=some v->ax w a v
def bs(w:NW)(F:List AV)(tm:Array Value):Prop:=F.length=tm.size/\∀(i:Nat) a v,F[i]?=some a->tm[i]?=some v->ax w a v
def gq(w:NW)(r:Row):Rz->Prop
 |.nil=>∃e sz,r=.aG e sz []
 |.at b t s=>s=r.bB/\∃cur:Array Value,w.heap[b]?=some (r.obj cur)/\r.fit cur.size t/\∀(i:Nat) a v,r.cells[i]?=some a->cur[i]?=some v->ax w a v
structure Keep(q:Nat->Bool)(w w':NW):Prop where
 size:w.heap.size<=w'.heap.size
 free:∀b,b<w.heap.size->¬w.O b->w'.heap[b]?=w.heap[b]?/\¬w'.O b
 names:∀i m z,q i=true->w.nm i m=some z->w'.nm i m=some z
def jR(w:NW):Prop:=∀g vs,(g,vs)∈AQ->(∃cur el fr,w.heap[g]?=some (.cells cur el fr)/\cur.toList=vs)/\¬w.O g
variable{w:NW}
def jR.aZ{q:Nat->Bool}{w':NW}(h:jR w)(k:Keep q w w'):jR w':=fun g vs hm=>by obtain⟨⟨cur,el,fr,h1,h2⟩,h3⟩:=h g vs hm;have:=k.free g (Array.getElem?_eq_some_iff.1 h1).1 h3;exact⟨⟨cur,el,fr,this.1.trans h1,h2⟩,this.2⟩
structure aJ(w:NW)(H:Hp):Prop where
 bX:jR w
 rows:∀i r,H.get i=some r->r.ok/\∃z,w.nm i r.fN=some z/\gq w r z
 df:∀i m z,w.nm i m=some z->∃r,H.get i=some r/\m<=r.fN
 inj:∀i m j n b t s t' s',w.nm i m=some (.at b t s)->w.nm j n=some (.at b t' s')->i=j
 own:∀i m b t s,w.nm i m=some (.at b t s)->w.O b
 fin:∀b,w.O b->b<w.heap.size
structure ExtQ(q:Nat->Bool)(w w':NW):Prop extends Keep q w w' where
 os:w'.os=w.os
 tape:w'.tape=w.tape
 output:w'.output=w.output
 rest:∀b,b<w.heap.size->w.O b->(∀i m t s,w.nm i m≠some (.at b t s))->w'.heap[b]?=w.heap[b]?/\w'.O b/\∀i m t s,w'.nm i m≠some (.at b t s)
abbrev rM:Nat->Bool:=fun _=>true
structure Ext(w:NW)(H:Hp)(w':NW)(H':Hp):Prop extends ExtQ rM w w' where
 base:H'.B=H.B
structure fO(w:NW)(H:Hp)(w':NW)(H':Hp):Prop extends ExtQ (fun i=>H.B.contains i) w w' where
 base:H'.B=H.B
def Keep.refl(q:Nat->Bool)(w:NW):Keep q w w:=⟨Nat.le_refl _,fun _ _ h=>⟨rfl,h⟩,fun _ _ _ _ h=>h⟩
theorem ExtQ.refl(q:Nat->Bool)(w:NW):ExtQ q w w:={ Keep.refl q w with os:=rfl,tape:=rfl,output:=rfl,rest:=fun _ _ h k=>⟨rfl,h,k⟩ }
theorem Ext.refl(w:NW)(H:Hp):Ext w H w H:={ ExtQ.refl _ w with base:=rfl }
theorem fO.refl(w:NW)(H:Hp):fO w H w H:={ ExtQ.refl _ w with base:=rfl }
theorem Keep.trans{q:Nat->Bool}{a b c:NW}(h:Keep q a b)(k:Keep q b c):Keep q a c:=
 ⟨Nat.le_trans h.size k.size,fun n hn hO=>⟨(k.free n (Nat.lt_of_lt_of_le hn h.size) (h.free n hn hO).2).1.trans (h.free n hn hO).1,(k.free n (Nat.lt_of_lt_of_le hn h.size) (h.free n hn hO).2).2⟩,fun i m z hq hz=>k.names i m z hq (h.names i m z hq hz)⟩
theorem ExtQ.trans{q:Nat->Bool}{a b c:NW}(h:ExtQ q a b)(k:ExtQ q b c):ExtQ q a c:={ h.toKeep.trans k.toKeep with
 os:=k.os.trans h.os,tape:=k.tape.trans h.tape,output:=k.output.trans h.output
 rest:=fun n hn hO TS=>by obtain⟨h1,h2,h3⟩:=h.rest n hn hO TS;obtain⟨k1,k2,k3⟩:=k.rest n (Nat.lt_of_lt_of_le hn h.size) h2 h3;exact⟨k1.trans h1,k2,k3⟩ }
def ExtQ.mono{q p:Nat->Bool}{a b:NW}(h:ExtQ q a b)(hp:∀i,p i=true->q i=true):ExtQ p a b:={ h with names:=fun i m z hq hz=>h.names i m z (hp i hq) hz }
theorem Ext.trans{a b c:NW}{H H' UC:Hp}(h:Ext a H b H')(k:Ext b H' c UC):Ext a H c UC:={ h.toExtQ.trans k.toExtQ with base:=k.base.trans h.base }
theorem fO.trans{a b c:NW}{H H' UC:Hp}(h:fO a H b H')(k:fO b H' c UC):fO a H c UC:={ h.toExtQ.trans (k.toExtQ.mono fun i hi=>by rw[h.base];exact hi)with base:=k.base.trans h.base }
variable{H:Hp}
def Ext.pG{a b:NW}{H':Hp}(h:Ext a H b H'):fO a H b H':={ h.toExtQ.mono fun _ _=>rfl with base:=h.base }
def px(a:Addr)(n:Nat):(a.add n).block=a.block:=by unfold Addr.add;split<;>rfl
def wD(a:Addr)(i j:Nat):(a.add i).add j=a.add (i+j):=by unfold Addr.add;by_cases hi:i=0<;>by_cases hj:j=0<;>simp[hi,hj,Nat.add_assoc]
def BY(a:Addr):a.add 0=a:=rfl
def jf(b o n:Nat):(⟨b,o,none⟩:Addr).add n=⟨b,o+n,none⟩:=by unfold Addr.add;split<;>simp_all
theorem Keep.bare{q:Nat->Bool}{w w':NW}(k:Keep q w w'):Keep rM w.bare w'.bare:=⟨k.size,k.free,fun i m z _ h=>by cases h⟩
def ax.aZ{a:AV}{v:Value}(h:ax w a v):∀{q:Nat->Bool} {w':NW},Keep q w w'->a.all q=true->ax w' a v:=by
 induction h with
 |raw v=>intro q w' _ _;exact .raw v
 |any v=>intro q w' _ _;exact .any v
 |agg cs vs hl _ ih=>intro q w' k ha;simp only[AV.all]at ha;exact .agg cs vs hl fun i a v h1 h2=>ih i a v h1 h2 k (lm ha h1)
 |aQ cs vs hl _ ih=>intro q w' k ha;simp only[AV.all]at ha;exact .aQ cs vs hl fun i a v h1 h2=>ih i a v h1 h2 k (lm ha h1)
 |gu x sz A c hx=>intro q w' _ _;exact .gu x sz A c hx
 |@sl w d x sz css a c vs hn hc hx TU hb hH D' _ ih=>
  intro q w' k _;have hk:=k.free _ hb hH;refine .sl x sz css a c vs hn hc (fun h=>⟨(hx h).1,by obtain⟨cur,el,hp⟩:=(hx h).2;exact⟨cur,el,hk.1.trans hp⟩⟩) TU (Nat.lt_of_lt_of_le hb k.size) hk.2 (fun i j hi hj=>?_) fun i j u hi hu=>ih i j u hi hu k.bare (ny u)
  rw[World.cell?_of_block (w:=w.toWorld) (by rw[px];exact hk.1)];exact D' i j hi hj
 |@ip w cs a vs hb hH D' _ ih=>
  intro q w' k _;have hk:=k.free _ hb hH;refine .ip cs a vs (Nat.lt_of_lt_of_le hb k.size) hk.2 (fun j hj=>?_) fun j u hu=>ih j u hu k.bare (ny u)
  rw[World.cell?_of_block (w:=w.toWorld) (by rw[px];exact hk.1)];exact D' j hj
 |gd p a v _ hu ih=>intro q w' k ha;exact .gd p a v (fun hp=>ih hp k (by simpa only[AV.all]using ha)) hu
 |dP f cs vs hl _ ih=>intro q w' k ha;simp only[AV.all]at ha;exact .dP f cs vs hl fun i a v h1 h2=>ih i a v h1 h2 k (lm ha h1)
 |pt i m o j b t s h=>intro q w' k ha;exact .pt i m o j b t s (k.names _ _ _ (by simpa only[AV.all]using ha) h)
 |iE i m sz A h=>intro q w' k ha;exact .iE i m sz A (k.names _ _ _ (by simpa only[AV.all]using ha) h)
 |rs i m sz n b t c h hc hn hs=>intro q w' k ha;exact .rs i m sz n b t c (k.names _ _ _ (by simpa only[AV.all]using ha) h) hc hn hs
 |rc i m sz n b t h hc hn hs=>intro q w' k ha;exact .rc i m sz n b t (k.names _ _ _ (by simpa only[AV.all]using ha) h) hc hn hs
 |jb i m sz o c A=>intro q w' _ _;exact .jb i m sz o c A
 |rv i m sz o n b t c h hn=>intro q w' k ha;exact .rv i m sz o n b t c (k.names _ _ _ (by simpa only[AV.all]using ha) h) hn
 |mr i b t s h=>intro q w' k ha;exact .mr i b t s (k.names _ _ _ (by simpa only[AV.all]using ha) h)
 |bd f fs vs hl _ ih=>intro q w' k ha;simp only[AV.all]at ha;exact .bd f fs vs hl fun i a v h1 h2=>ih i a v h1 h2 k (lm ha h1)
 |iG t a v _ ih=>intro q w' k ha;exact .iG t a v (ih k (by simpa only[AV.all]using ha))
 |mv m a v _ ih=>intro q w' k ha;exact .mv m a v (ih k (by simpa only[AV.all]using ha))
def ax.ext{w':NW}{H':Hp}(e:Ext w H w' H'){a:AV}{v:Value}(h:ax w a v):ax w' a v:=h.aZ e.toKeep (ny a)
theorem bs.ext{w w':NW}{H H':Hp}(e:Ext w H w' H'){F:List AV}{tm:Array Value}(h:bs w F tm):bs w' F tm:=⟨h.1,fun i a v ha hv=>(h.2 i a v ha hv).ext e⟩
theorem bs.aZ{q:Nat->Bool}{w w':NW}(k:Keep q w w'){F:List AV}{tm:Array Value}(h:bs w F tm)(hF:aX q F=true):bs w' F tm:=⟨h.1,fun i a v ha hv=>(h.2 i a v ha hv).aZ k (lm hF ha)⟩
abbrev eo:Nat->Bool:=fun _=>false
def Keep.lg(w:NW):Keep eo w w.bare:=⟨Nat.le_refl _,fun _ _ h=>⟨rfl,h⟩,fun _ _ _ h _=>by cases h⟩
def Keep.mg(w:NW):Keep rM w.bare w:=⟨Nat.le_refl _,fun _ _ h=>⟨rfl,h⟩,fun _ _ _ _ h=>by cases h⟩
theorem ax.lg{w:NW}{a:AV}{v:Value}(h:ax w a v)(ha:a.all eo=true):ax w.bare a v:=h.aZ (Keep.lg w) ha
theorem ax.mg{w:NW}{a:AV}{v:Value}(h:ax w.bare a v):ax w a v:=h.aZ (Keep.mg w) (ny a)
variable{i:Nat}
def aJ.lt(h:aJ w H){m b t s:Nat}(hn:w.nm i m=some (.at b t s)):b<w.heap.size:=h.fin b (h.own _ _ _ _ _ hn)
theorem aJ.none{w:NW}{H:Hp}(h:aJ w H){i:Nat}(hi:H.get i=none)(m:Nat):w.nm i m=none:=by
 cases e:w.nm i m with
 |none=>rfl
 |some z=>obtain⟨r,hr,_⟩:=h.df i m z e;rw[hi]at hr;cases hr
def aJ.later(h:aJ w H){m:Nat}(hi:H.get i=some r)(hm:r.fN<m):w.nm i m=Option.none:=by
 cases e:w.nm i m with
 |none=>rfl
 |some z=>obtain⟨s,hs,T3⟩:=h.df i m z e;rw[hi]at hs;cases hs;omega
theorem gq.ext{w w':NW}{H H':Hp}(e:Ext w H w' H'){r:Row}{z:Rz}(hz:∀b t s,z=.at b t s->w'.heap[b]?=w.heap[b]?)(h:gq w r z):gq w' r z:=by
 cases z with
 |nil=>exact h
 |«at» b t s=> obtain⟨h1,cur,h2,h3,h5⟩:=h;exact⟨h1,cur,(hz b t s rfl).trans h2,h3,fun i a v ha hv=>(h5 i a v ha hv).ext e⟩
@[reducible] def NW.to(w:NW)(W:World):NW:={ w with toWorld:=W }
def NW.name(w:NW)(i m:Nat)(z:Rz):NW:={ w with nm:=fun j n=>if j=i/\n=m then some z else w.nm j n }
def NW.cw(w:NW)(i m:Nat)(z:Rz):(w.name i m z).nm i m=some z:=if_pos ⟨rfl,rfl⟩
def NW.ga(w:NW)(b:Nat):NW:={ w with O:=fun c=>c=b\/w.O c }
def Ext.fi(r:aJ w H)(o:Obj):Ext w H (w.to (w.alloc o)) H:={
 size:=jE
 free:=fun b hb hn=>⟨RowKit.Below.heap_alloc w.toWorld o b hb,hn⟩
 names:=fun _ _ _ _ h=>h
 os:=rfl,tape:=rfl,output:=rfl
 rest:=fun b hb hO TS=>⟨RowKit.Below.heap_alloc w.toWorld o b hb,hO,TS⟩
 base:=rfl }
theorem aJ.fi{w:NW}{H:Hp}(r:aJ w H)(o:Obj):aJ (w.to (w.alloc o)) H:={
 rows:=fun i row hi=>by obtain⟨h1,z,h2,h3⟩:=r.rows i row hi;refine⟨h1,z,h2,h3.ext (Ext.fi r o) fun b t s e=>?_⟩;subst e;exact RowKit.Below.heap_alloc w.toWorld o b (r.lt h2)
 df:=r.df,inj:=r.inj,own:=r.own
 bX:=r.bX.aZ (Ext.fi r o).toKeep
 fin:=fun b hb=>by have:=r.fin b hb;simp;omega }
theorem Ext.drew(w:NW)(H:Hp):Ext w H (w.to w.drew) H:={ size:=Nat.le_refl _,free:=fun _ _ h=>⟨rfl,h⟩,names:=fun _ _ _ _ h=>h,os:=rfl,tape:=rfl,output:=rfl,rest:=fun _ _ h k=>⟨rfl,h,k⟩,base:=rfl }
theorem aJ.drew{w:NW}{H:Hp}(r:aJ w H):aJ (w.to w.drew) H:={
 rows:=fun i row hi=>by obtain⟨h1,z,h2,h3⟩:=r.rows i row hi;exact⟨h1,z,h2,h3.ext (Ext.drew w H) fun b t s e=>rfl⟩
 df:=r.df,inj:=r.inj,own:=r.own,fin:=r.fin,bX:=r.bX.aZ (Ext.drew w H).toKeep }
def vy(r:aJ w H){row:Row}(Xv:w.nm i row.fN=none)(Wp:∀r',H.get i=some r'->r'.fN<=row.fN)(hok:row.ok)(cur:Array Value)(T3:row.fit cur.size cur.size)
  (hc:∀(k:Nat) a v,row.cells[k]?=some a->cur[k]?=some v->ax w a v) :
  aJ (((w.to (w.alloc (row.obj cur))).ga w.heap.size).name i row.fN (.at w.heap.size cur.size row.bB)) (H.put i row)/\
  Ext w H (((w.to (w.alloc (row.obj cur))).ga w.heap.size).name i row.fN (.at w.heap.size cur.size row.bB)) (H.put i row):=by
 have ex:Ext w H (((w.to (w.alloc (row.obj cur))).ga w.heap.size).name i row.fN (.at w.heap.size cur.size row.bB)) (H.put i row):={
  size:=by show w.heap.size<=(w.alloc _).heap.size;simp
  free:=fun b hb hn=>⟨RowKit.Below.heap_alloc w.toWorld _ b hb,fun h=>by
   rcases h with h|h
   ·omega
   ·exact hn h⟩
  names:=fun j n z _ h=>by
   show(if j=i/\n=row.fN then _ else _)=_;rw[if_neg]
   ·exact h
   ·rintro⟨rfl,rfl⟩;rw[Xv]at h;cases h
  os:=rfl,tape:=rfl,output:=rfl
  rest:=fun b hb hO TS=>⟨RowKit.Below.heap_alloc w.toWorld _ b hb,.inr hO,fun j n t s h=>by
   have h:(if j=i/\n=row.fN then some (Rz.at w.heap.size cur.size row.bB)else w.nm j n)=some (.at b t s):=h;split at h
   ·cases h;omega
   ·exact TS _ _ _ _ h⟩
  base:=rfl }
 have Uu:∀j n,(((w.to (w.alloc (row.obj cur))).ga w.heap.size).name i row.fN (.at w.heap.size cur.size row.bB)).nm j n=if j=i/\n=row.fN then some (Rz.at w.heap.size cur.size row.bB)else w.nm j n:=fun _ _=>rfl
 refine⟨{ rows:=fun j s hj=>?_,df:=fun j n z hz=>?_,inj:=fun j n j' n' b t s t' s' h1 h2=>?_,own:=fun j n b t s h=>?_,fin:=fun b hb=>?_,bX:=r.bX.aZ ex.toKeep },ex⟩
 ·rw[Hp.bj]at hj;split at hj
  ·rename_i e;subst e;cases hj;refine⟨hok,.at w.heap.size cur.size row.bB,by rw[Uu,if_pos ⟨rfl,rfl⟩],rfl,cur,heap_alloc_new w.toWorld _,T3,fun k a v ha hv=>(hc k a v ha hv).ext ex⟩
  ·rename_i e;obtain⟨h1,z,h2,h3⟩:=r.rows j s hj;refine⟨h1,z,by rw[Uu,if_neg (fun h=>e h.1)];exact h2,h3.ext ex fun b t s e=>?_⟩;subst e;exact RowKit.Below.heap_alloc w.toWorld _ b (r.lt h2)
 ·rw[Uu]at hz;rw[Hp.bj];split at hz
  ·rename_i e;exact⟨row,by rw[if_pos e.1],by rw[e.2];exact Nat.le_refl _⟩
  ·obtain⟨r',h1,h2⟩:=r.df j n z hz;by_cases e:j=i
   ·subst e;exact⟨row,by rw[if_pos rfl],Nat.le_trans h2 (Wp r' h1)⟩
   ·exact⟨r',by rw[if_neg e];exact h1,h2⟩
 ·rw[Uu]at h1 h2;split at h1<;>split at h2
  ·rename_i e1 e2;rw[e1.1,e2.1]
  ·cases h1;have:=r.lt h2;omega
  ·cases h2;have:=r.lt h1;omega
  ·exact r.inj _ _ _ _ _ _ _ _ _ h1 h2
 ·rw[Uu]at h;split at h
  ·cases h;exact .inl rfl
  ·exact .inr (r.own _ _ _ _ _ h)
 ·show b<(w.alloc _).heap.size;rcases hb with h|h
  ·subst h;simp
  ·have:=r.fin b h;simp;omega
def I9{W:World}(r:aJ w H){row row':Row}{b t:Nat}(hi:H.get i=some row)(hn:w.nm i row.fN=some (.at b t row.bB))(hs:row'.bB=row.bB)(hv:row.fN<=row'.fN)(hok:row'.ok)
  (h1:W.os=w.os) (h2:W.tape=w.tape) (h3:W.output=w.output) (TU:W.heap.size=w.heap.size) (hk:∀c,c≠b->W.heap[c]?=w.heap[c]?) (cur:Array Value) (WX:W.heap[b]?=some (row'.obj cur)) (Vb:row'.fit cur.size t)
  (hc:∀(k:Nat) a v,row'.cells[k]?=some a->cur[k]?=some v->ax w a v) :
  aJ ((w.to W).name i row'.fN (.at b t row.bB)) (H.put i row')/\Ext w H ((w.to W).name i row'.fN (.at b t row.bB)) (H.put i row'):=by
 have hO:=r.own _ _ _ _ _ hn;have ex:Ext w H ((w.to W).name i row'.fN (.at b t row.bB)) (H.put i row'):={
  size:=by show w.heap.size<=W.heap.size;omega
  free:=fun c hc hO'=>⟨hk c (fun e=>hO' (e ▸ hO)),hO'⟩
  names:=fun j n z _ h=>by
   show(if j=i/\n=row'.fN then _ else _)=_;split
   ·rename_i e;obtain⟨rfl,rfl⟩:=e;obtain⟨r',g1,g2⟩:=r.df _ _ _ h;rw[hi]at g1;cases g1;have:row.fN=row'.fN:=jB;rw[<-this,hn]at h;exact h
   ·exact h
  os:=h1,tape:=h2,output:=h3
  rest:=fun c hc hO' TS=>⟨hk c (fun e=>TS _ _ _ _ (e ▸ hn)),hO',fun j n t' s h=>by
   have h:(if j=i/\n=row'.fN then some (Rz.at b t row.bB)else w.nm j n)=some (.at c t' s):=h;split at h
   ·cases h;exact TS _ _ _ _ hn
   ·exact TS _ _ _ _ h⟩
  base:=rfl }
 have Uu:∀j n,((w.to W).name i row'.fN (.at b t row.bB)).nm j n=if j=i/\n=row'.fN then some (Rz.at b t row.bB)else w.nm j n:=fun _ _=>rfl
 refine⟨{ rows:=fun j s hj=>?_,df:=fun j n z hz=>?_,inj:=fun j n j' n' b' t1 s t' s' g1 g2=>?_,own:=fun j n b' t' s h=>?_,fin:=fun c hb=>?_,bX:=r.bX.aZ ex.toKeep },ex⟩
 ·rw[Hp.bj]at hj;split at hj
  ·rename_i e;subst e;cases hj;exact⟨hok,.at b t row.bB,by rw[Uu,if_pos ⟨rfl,rfl⟩],hs.symm,cur,WX,Vb,fun k a v ha hv=>(hc k a v ha hv).ext ex⟩
  ·rename_i e;obtain⟨g1,z,g2,g3⟩:=r.rows j s hj;refine⟨g1,z,by rw[Uu,if_neg (fun h=>e h.1)];exact g2,g3.ext ex fun c t' s' e'=>?_⟩;subst e';exact hk c fun e'=>by subst e';exact e (r.inj _ _ _ _ _ _ _ _ _ g2 hn)
 ·rw[Uu]at hz;rw[Hp.bj];split at hz
  ·rename_i e;exact⟨row',by rw[if_pos e.1],by rw[e.2];exact Nat.le_refl _⟩
  ·obtain⟨r',g1,g2⟩:=r.df j n z hz;by_cases e:j=i
   ·subst e;rw[hi]at g1;cases g1;exact⟨row',by rw[if_pos rfl],Nat.le_trans g2 hv⟩
   ·exact⟨r',by rw[if_neg e];exact g1,g2⟩
 ·rw[Uu]at g1 g2;split at g1<;>split at g2
  ·rename_i e1 e2;rw[e1.1,e2.1]
  ·rename_i e1 _;cases g1;rw[e1.1];exact r.inj _ _ _ _ _ _ _ _ _ hn g2
  ·rename_i _ e2;cases g2;rw[e2.1];exact r.inj _ _ _ _ _ _ _ _ _ g1 hn
  ·exact r.inj _ _ _ _ _ _ _ _ _ g1 g2
 ·rw[Uu]at h;split at h
  ·cases h;exact hO
  ·exact r.own _ _ _ _ _ h
 ·show c<W.heap.size;have:=r.fin c hb;omega
variable{sz:Nat}
def xD(r:aJ w H)(hi:H.get i=none)(e:TypeId)(TU:0<sz):aJ (w.name i 0 .nil) (H.put i (.aG e sz []))/\Ext w H (w.name i 0 .nil) (H.put i (.aG e sz [])):=by
 have ZC:=r.none hi;have Uu:∀j n,(w.name i 0 .nil).nm j n=if j=i/\n=0 then some Rz.nil else w.nm j n:=fun _ _=>rfl
 have ex:Ext w H (w.name i 0 .nil) (H.put i (.aG e sz [])):={
  size:=Nat.le_refl _,free:=fun _ _ h=>⟨rfl,h⟩
  names:=fun j n z _ h=>by
   rw[Uu,if_neg]
   ·exact h
   ·rintro⟨rfl,rfl⟩;rw[ZC]at h;cases h
  os:=rfl,tape:=rfl,output:=rfl
  rest:=fun b hb hO TS=>⟨rfl,hO,fun j n t s h=>by
   rw[Uu]at h;split at h
   ·cases h
   ·exact TS _ _ _ _ h⟩
  base:=rfl }
 refine⟨{ rows:=fun j s hj=>?_,df:=fun j n z hz=>?_,inj:=fun j n j' n' b t s t' s' h1 h2=>?_,own:=fun j n b t s h=>?_,fin:=r.fin,bX:=r.bX.aZ ex.toKeep },ex⟩
 ·rw[Hp.bj]at hj;split at hj
  ·rename_i e';subst e';cases hj;exact⟨⟨TU,fun _ h=>by simp at h⟩,.nil,by rw[Uu];exact if_pos ⟨rfl,rfl⟩,e,sz,rfl⟩
  ·rename_i e';obtain⟨h1,z,h2,h3⟩:=r.rows j s hj;exact⟨h1,z,by rw[Uu,if_neg (fun h=>e' h.1)];exact h2,h3.ext ex fun b t s _=>rfl⟩
 ·rw[Uu]at hz;rw[Hp.bj];split at hz
  ·rename_i e';exact⟨_,by rw[if_pos e'.1],by rw[e'.2];exact Nat.zero_le _⟩
  ·obtain⟨r',h1,h2⟩:=r.df j n z hz;have e':j≠i:=fun e'=>by subst e';rw[hi]at h1;cases h1
   exact⟨r',by rw[if_neg e'];exact h1,h2⟩
 ·rw[Uu]at h1 h2;split at h1
  ·cases h1
  ·split at h2
   ·cases h2
   ·exact r.inj _ _ _ _ _ _ _ _ _ h1 h2
 ·rw[Uu]at h;split at h
  ·cases h
  ·exact r.own _ _ _ _ _ h
def FM(i:Nat):Nat->Bool:=fun j=>!(j == i)
def GX(i:Nat):List (Nat×Row)->Bool
 |[]=>true
 |(j,r)::l=>(j == i || aX (FM i) r.cells) && GX i l
-- abstract ka
def cn(F:List AV):Operand->AV
 |.tmp t=>F.getD t .any
 |.const v=>.raw v
 |.global g=>.raw (.pointer (some ⟨g,0,none⟩))
 |.func f=>.raw (.func (.func f) #[] #[])
def cL(F:List AV)(d:Option Tmp)(a:AV):List AV:=match d with
 |some d=>F.set d a
 |none=>F
theorem bs.eval{w:NW}{F:List AV}{tm:Array Value}(h:bs w F tm)(ds:List Deferred)(x:Operand):ax w (cn F x) ((Act.mk tm ds).eval x):=by
 cases x with
 |tmp t=>
  simp only[cn,Act.eval];by_cases ht:t<F.length
  ·have WY:t<tm.size:=by rw[<-h.1];exact ht
   have h1:F[t]?=some (F.getD t .any):=by simp[ht]
   have h2:tm[t]?=some (tm.getD t undef):=by simp[WY]
   exact h.2 t _ _ h1 h2
  ·have:F.getD t .any=.any:=by simp[List.getElem?_eq_none (Nat.le_of_not_lt ht)]
   rw[this];exact .any _
 |const v=>exact .raw v
 |global g=>exact .raw _
 |func f=>exact .raw _
theorem bs.put{w:NW}{F:List AV}{tm:Array Value}(h:bs w F tm)(d:Option Tmp){a:AV}{v:Value}(hv:ax w a v)(ds:List Deferred):bs w (cL F d a) ((Act.mk tm ds).put d v).tmps:=by
 cases d with
 |none=>exact h
 |some d=>
  refine⟨by simp[cL,Act.put,h.1],fun i a' v' ha T'=>?_⟩;simp only[cL,Act.put]at ha T';rw[List.getElem?_set]at ha;rw[Array.getElem?_setIfInBounds]at T';by_cases hd:d=i
  ·subst hd;simp only[if_true]at ha T';split at ha<;>split at T'<;>simp_all
  ·simp only[if_neg hd]at ha T';exact h.2 i a' v' ha T'
def Act.put_eq(tm:Array Value)(ds:List Deferred)(d:Option Tmp)(v:Value):(Act.mk tm ds).put d v=⟨((Act.mk tm ds).put d v).tmps,ds⟩:=by cases d<;>rfl
def gS(Q:Exit->List AV->Hp->Prop)(w:NW)(H:Hp):Exit->Act->World->Prop:=fun e a W=> ∃tm F' H' w',W=w'.toWorld/\a=⟨tm,[]⟩/\Q e F' H'/\aJ w' H'/\bs w' F' tm/\fO w H w' H'
def dF(P:Program)(c:Code)(Q:Exit->List AV->Hp->Prop)(F:List AV)(H:Hp):Prop:=
 ∀(w:NW) tm,aJ w H->bs w F tm->Code.wp P c (gS Q w H) ⟨tm,[]⟩ w.toWorld
def dL(F:List AV)(H:Hp)(F':List AV)(H':Hp):Prop:=∀(w:NW) tm,aJ w H->bs w F tm->∃w':NW,w'.toWorld=w.toWorld/\aJ w' H'/\bs w' F' tm/\fO w H w' H'
theorem dL.trans{F F' F'':List AV}{H H' UC:Hp}(h:dL F H F' H')(k:dL F' H' F'' UC):dL F H F'' UC:=fun w tm h1 h2=>by obtain⟨w',e,a,b,c⟩:=h w tm h1 h2;obtain⟨w'',e',a',b',c'⟩:=k w' tm a b;exact⟨w'',e'.trans e,a',b',c.trans c'⟩
def lb:List AV->List AV->Prop
 |[],[]=>True
 |a::l,b::m=>(b=.any\/a=b)/\lb l m
 |_,_=>False
theorem lb.get:∀{l m:List AV},lb l m->l.length=m.length/\∀(i:Nat) a b,l[i]?=some a->m[i]?=some b->b=.any\/a=b
 |[],[],_=>⟨rfl,fun i a b h=>by simp at h⟩
 |x::l,y::m,h=>by
  have ih:=lb.get h.2;refine⟨by simp[ih.1],fun i a b ha hb=>?_⟩;cases i with
  |zero=>simp at ha hb;subst ha hb;exact h.1
  |succ i=>exact ih.2 i a b (by simpa using ha) (by simpa using hb)
def dL.pt{F F':List AV}(H:Hp)(h:lb F F'):dL F H F' H:=fun w tm h1 h2=>by
 obtain⟨hl,hg⟩:=h.get;refine⟨w,rfl,h1,⟨hl.symm.trans h2.1,fun i a v ha hv=>?_⟩,fO.refl w H⟩;have hi:i<F.length:=by rw[hl];exact(List.getElem?_eq_some_iff.1 ha).1
 rcases hg i F[i] a (List.getElem?_eq_getElem hi) ha with rfl|he
 ·exact .any v
 ·exact he ▸ h2.2 i _ v (List.getElem?_eq_getElem hi) hv
def Hu(lo n:Nat)(F:List AV):List AV:=F.take lo++List.replicate n .any++F.drop (lo+n)
def nj(W:List (Nat×Nat))(F:List AV):List AV:=W.foldl (fun F d=>Hu d.1 d.2 F) F
section
variable {P:Program}{Q Q':Exit->List AV->Hp->Prop}{F:List AV}{H:Hp}
def gS.pI{w w':NW}{H H':Hp}(e:fO w H w' H'){x:Exit}{a:Act}{w'':World}(h:gS Q w' H' x a w''):gS Q w H x a w'':=by obtain⟨tm,F',UC,n,h0,h1,h2,h3,h4,h5⟩:=h;exact⟨tm,F',UC,n,h0,h1,h2,h3,h4,e.trans h5⟩
def jq{c:Code}{F':List AV}{H':Hp}(hl:dL F H F' H')(h:dF P c Q F' H'):dF P c Q F H:=fun w tm h1 h2=>by obtain⟨w',e0,a,b,e⟩:=hl w tm h1 h2;rw[<-e0];exact wp_mono (h w' tm a b) fun _ _ _ hp=>hp.pI e
def uv(next:List AV->Hp->Prop)(Q:Exit->List AV->Hp->Prop):Exit->List AV->Hp->Prop
 |.normal,F,H=>next F H
 |e,F,H=>Q e F H
def sL(id:Nat)(Q:Exit->List AV->Hp->Prop):Exit->List AV->Hp->Prop
 |.exit id',F,H=>if id'=id then Q .normal F H else Q (.exit id') F H
 |e,F,H=>Q e F H
variable{x y:Code}
def R8(h:dF P x (uv (dF P y Q) Q) F H):dF P (.seq x y) Q F H:=fun w tm h1 h2=>by
 refine wp_seq (wp_mono (h w tm h1 h2) ?_);rintro e a W ⟨Us,F',H',w',rfl,rfl,hq,h3,h4,h5⟩;cases e with
 |normal=>exact wp_mono (hq w' Us h3 h4) fun _ _ _ hp=>hp.pI h5
 |exit id=>exact⟨Us,F',H',w',rfl,rfl,hq,h3,h4,h5⟩
 |goto l=>exact⟨Us,F',H',w',rfl,rfl,hq,h3,h4,h5⟩
 |ret=>exact⟨Us,F',H',w',rfl,rfl,hq,h3,h4,h5⟩
 |panic ch=>exact⟨Us,F',H',w',rfl,rfl,hq,h3,h4,h5⟩
 |outgrown=>exact⟨Us,F',H',w',rfl,rfl,hq,h3,h4,h5⟩
def aq(h:∀K:List AV->Hp->Prop,(∀F H,dF P y Q F H->K F H)->dF P x (uv K Q) F H):dF P (.seq x y) Q F H:=R8 (h _ fun _ _ h=>h)
def BL{c:Code}{e:Exit}(hc:∀(R:Exit->Act->World->Prop) a w,R e a w->Code.wp P c R a w)(h:Q e F H):dF P c Q F H:=fun w tm h1 h2=>hc _ _ _ ⟨tm,F,H,w,rfl,rfl,h,h1,h2,fO.refl w H⟩
def Qb(h:Q .normal F H):dF P .skip Q F H:=BL (fun _ _ _ h=>wp_skip h) h
def NR{id:Nat}(h:Q (.exit id) F H):dF P (.exit id) Q F H:=BL (fun _ _ _ h=>wp_exit h) h
def Ro(h:Q .ret F H):dF P .ret Q F H:=BL (fun _ _ _ h=>wp_ret h) h
def NG{c:Operand}{b:Bool}(hc:cn F c=.raw (.bool b))(ht:b=true->dF P x Q F H)(hf:b=false->dF P y Q F H):dF P (.cond c x y) Q F H:=fun w tm h1 h2=>by have he:=h2.eval [] c;rw[hc]at he;generalize hv:(Act.mk tm []).eval c=v at he;cases he;exact wp_cond_split hv (fun h=>ht h w tm h1 h2) (fun h=>hf h w tm h1 h2)
def OS{id:Nat}{c:Code}(h:dF P c (sL id Q) F H):dF P (.block id c) Q F H:=fun w tm h1 h2=>by
 refine wp_block (wp_mono (h w tm h1 h2) ?_);rintro e a W ⟨Us,F',H',w',rfl,rfl,hq,h3,h4,h5⟩;cases e with
 |normal=>exact⟨Us,F',H',w',rfl,rfl,hq,h3,h4,h5⟩
 |exit id'=>
  simp only[sL]at hq;simp only[Exit.inBlock];split<;>rename_i hid
  ·rw[if_pos hid]at hq;exact⟨Us,F',H',w',rfl,rfl,hq,h3,h4,h5⟩
  ·rw[if_neg hid]at hq;exact⟨Us,F',H',w',rfl,rfl,hq,h3,h4,h5⟩
 |goto l=>exact⟨Us,F',H',w',rfl,rfl,hq,h3,h4,h5⟩
 |ret=>exact⟨Us,F',H',w',rfl,rfl,hq,h3,h4,h5⟩
 |panic ch=>exact⟨Us,F',H',w',rfl,rfl,hq,h3,h4,h5⟩
 |outgrown=>exact⟨Us,F',H',w',rfl,rfl,hq,h3,h4,h5⟩
def OC{S:Type}{c:Code}(I:S->List AV->Hp->Prop)(μ:S->Nat)(s₀:S){F₀:List AV}{H₀:Hp}(T3:dL F H F₀ H₀)(h₀:I s₀ F₀ H₀)
  (round:∀s F H,I s F H->dF P c (uv (fun F' H'=>∃s' F'' UC,μ s'<μ s/\dL F' H' F'' UC/\I s' F'' UC) Q) F H):dF P (.loop c) Q F H:=fun w tm h1 h2=>by
 obtain⟨w0,ew,h1,h2,e0⟩:=T3 w tm h1 h2;rw[<-ew];refine wp_loop_ghost (fun n a W=>∃s F' H' Us w',μ s=n/\I s F' H'/\W=NW.toWorld w'/\a=⟨Us,[]⟩/\aJ w' H'/\bs w' F' Us/\fO w H w' H') (μ s₀) ⟨s₀,F₀,H₀,tm,w0,rfl,h₀,rfl,rfl,h1,h2,e0⟩ ?_;rintro n a W ⟨s,F',H',Us,w',rfl,hI,rfl,rfl,h3,h4,h5⟩;refine wp_mono (round s F' H' hI w' Us h3 h4) ?_;rintro e a W ⟨tm'',F'',UC,w'',rfl,rfl,hq,h6,h7,h8⟩;cases e with
 |normal=> obtain⟨s',F3,H3,O',hl,hI'⟩:=hq;obtain⟨w3,ew3,g1,g2,g3⟩:=hl w'' tm'' h6 h7;exact⟨μ s',O',s',F3,H3,tm'',w3,rfl,hI',ew3.symm,rfl,g1,g2,(h5.trans h8).trans g3⟩
 |exit id=>exact⟨tm'',F'',UC,w'',rfl,rfl,hq,h6,h7,h5.trans h8⟩
 |goto l=>exact⟨tm'',F'',UC,w'',rfl,rfl,hq,h6,h7,h5.trans h8⟩
 |ret=>exact⟨tm'',F'',UC,w'',rfl,rfl,hq,h6,h7,h5.trans h8⟩
 |panic ch=>exact⟨tm'',F'',UC,w'',rfl,rfl,hq,h6,h7,h5.trans h8⟩
 |outgrown=>exact⟨tm'',F'',UC,w'',rfl,rfl,hq,h6,h7,h5.trans h8⟩
end
-- regions
def th(P:Program)(ops:Array Oper)(Q:Exit->Act->World->Prop)(o:Oper)(next:Act->World->Prop)(a:Act)(w:World):Prop:=
 if Region.wanted o (yielded ops a.tmps)then o.wp P a w next Q\/(o.asks P a w/\LetsOut Q)else next (a.put o.dst undef) w
def mM(P:Program)(ops:Array Oper)(o:Oper)(F:List AV)(H:Hp)(K:List AV->Hp->Prop):Prop:=
 ∀(w:NW) tm (Q:Exit->Act->World->Prop) (next:Act->World->Prop),aJ w H->bs w F tm->
  (∀Us (w':NW) F' H',K F' H'->aJ w' H'->bs w' F' Us->Ext w H w' H'->next ⟨Us,[]⟩ w'.toWorld)->th P ops Q o next ⟨tm,[]⟩ w.toWorld
def vu(P:Program)(ops:Array Oper)(K:List AV->Hp->Prop)(l:List Oper)(F:List AV)(H:Hp):Prop:=
 ∀(w:NW) tm (Q:Exit->Act->World->Prop),aJ w H->bs w F tm->
  (∀Us (w':NW) F' H',K F' H'->aJ w' H'->bs w' F' Us->Ext w H w' H'->Q .normal ⟨Us,[]⟩ w'.toWorld)->wpList P ops Q l ⟨tm,[]⟩ w.toWorld
section
variable {P:Program}{ops:Array Oper}{F:List AV}{H:Hp}{K:List AV->Hp->Prop}
variable{o:Oper}
def mM.mono{K':List AV->Hp->Prop}(h:mM P ops o F H K)(hk:∀F H,K F H->K' F H):mM P ops o F H K':=
 fun w tm Q next h1 h2 hn=>h w tm Q next h1 h2 fun Us w' F' H' k=>hn Us w' F' H' (hk _ _ k)
def E6(h:K F H):vu P ops K [] F H:=fun w tm Q h1 h2 hq=>hq tm w F H h h1 h2 (Ext.refl w H)
def G4{rest:List Oper}(h:mM P ops o F H (vu P ops K rest)):vu P ops K (o::rest) F H:=fun w tm Q h1 h2 hq=>by
 have:=h w tm Q (wpList P ops Q rest) h1 h2 fun Us w' F' H' k g1 g2 g3=>k w' Us Q g1 g2 fun tm'' w'' F'' UC k' g4 g5 g6=>hq tm'' w'' F'' UC k' g4 g5 (g3.trans g6)
 simpa only[th,wpList]using this
def Hq{id:Nat}{Q:Exit->List AV->Hp->Prop}(h:vu P ops (Q .normal) ops.toList F H):dF P (.region id ops false) Q F H:=fun w tm h1 h2=> wp_region_list (h w tm (gS Q w H) h1 h2 fun Us w' F' H' k g1 g2 g3=>⟨Us,F',H',w',rfl,rfl,k,g1,g2,g3.pG⟩)
def BJ(P:Program)(o:Oper)(F:List AV)(H:Hp)(K:AV->Hp->Prop):Prop:=
 ∀(w:NW) tm,aJ w H->bs w F tm->∃(w':NW) (H':Hp) (r:AV),K r H'/\aJ w' H'/\Ext w H w' H'/\
  ((∃v,(execOp (Act.mk tm []).eval o).run P w.toWorld=.ok (.value v) w'.toWorld/\ax w' r v)\/((execOp (Act.mk tm []).eval o).run P w.toWorld=.ok .skip w'.toWorld/\r=.any))
def MY(h:BJ P o F H (fun r H'=>K (cL F o.dst r) H')){w:NW}{tm:Array Value}{Q:Exit->Act->World->Prop}{next:Act->World->Prop}(h1:aJ w H)(h2:bs w F tm)
  (hn:∀Us (w':NW) F' H',K F' H'->aJ w' H'->bs w' F' Us->Ext w H w' H'->next ⟨Us,[]⟩ w'.toWorld):o.wp P ⟨tm,[]⟩ w.toWorld next Q:=by
 obtain⟨w',H',r,hk,g1,g2,g3⟩:=h w tm h1 h2;rcases g3 with⟨v,hr,hv⟩|⟨hr,rfl⟩
 ·simp only[Oper.wp,hr,Oper.upon];rw[Act.put_eq];exact hn _ w' _ H' hk g1 ((h2.ext g2).put o.dst hv []) g2
 ·simp only[Oper.wp,hr,Oper.upon];rw[Act.put_eq];exact hn _ w' _ H' hk g1 ((h2.ext g2).put o.dst (.any _) []) g2
def JN(hg:o.guard=none)(h:BJ P o F H (fun r H'=>K (cL F o.dst r) H')):mM P ops o F H K:=fun w tm Q next h1 h2 hn=>by unfold th;rw[if_pos (by simp[Region.wanted,hg])];exact .inl (MY h h1 h2 hn)
end
-- calls
def ids(l:List (Nat×Row)):List Nat:=l.map (·.1)
def entry(l:List (Nat×Row)):Hp:=⟨ids l,l⟩
def ab(P:Program)(f:FuncId)(args:List AV)(l:List (Nat×Row))(R:AV->List (Nat×Row)->Prop):Prop:=
 ∀(w:NW) vs,aJ w (entry l)->bs w args vs->Calls P f vs w.toWorld fun e W=>∃v r H' w',W=NW.toWorld w'/\e=.returned v/\R r (Hp.l H')/\aJ w' H'/\ax w' r v/\fO w (entry l) w' H'
theorem ab.mono{P:Program}{f:FuncId}{args:List AV}{l:List (Nat×Row)}{R R':AV->List (Nat×Row)->Prop}(h:ab P f args l R)(hr:∀r l',R r l'->R' r l'):ab P f args l R':=
 fun w vs h1 h2=>(h w vs h1 h2).mono fun _ _ ⟨v,r,H',w',e0,e,k,g⟩=>⟨v,r,H',w',e0,e,hr _ _ k,g⟩
def iB(r:AV)(H:Hp)(r':AV)(H':Hp):Prop:=∀(w:NW) v,aJ w H->ax w r v->∃w':NW,w'.toWorld=w.toWorld/\aJ w' H'/\ax w' r' v/\fO w H w' H'
theorem iB.refl(r:AV)(H:Hp):iB r H r H:=fun w _ h1 h2=>⟨w,rfl,h1,h2,fO.refl w H⟩
theorem iB.trans{a b c:AV}{H H' UC:Hp}(h:iB a H b H')(k:iB b H' c UC):iB a H c UC:=fun w v h1 h2=>by obtain⟨w',e,x,y,z⟩:=h w v h1 h2;obtain⟨w'',e',x',y',z'⟩:=k w' v x y;exact⟨w'',e'.trans e,x',y',z.trans z'⟩
def iB.of_eq{r r':AV}(H:Hp)(h:r=r'):iB r H r' H:=h ▸ iB.refl r H
-- a call, where more is owned than the function is YJ
def gx(l:List (Nat×Row)):List (Nat×Row)->List (Nat×Row)
 |[]=>l
 |(i,r)::m=>gx (bh l i r) m
def NW.only(w:NW)(L:List Nat):NW:={ w with nm:=fun i m=>if L.contains i=true then w.nm i m else none }
theorem rX:∀{l:List (Nat×Row)} {i:Nat} {r:Row},aA l i=some r->(ids l).contains i=true
 |[],_,_,h=>by cases h
 |(j,s)::l,i,r,h=>by
  simp only[aA]at h;simp only[ids,List.map_cons,List.contains_cons,Bool.or_eq_true,beq_iff_eq];split at h
  ·rename_i e;exact .inl e
  ·exact .inr (rX (l:=l) h)
theorem yv:∀{l:List (Nat×Row)} {i:Nat},(ids l).contains i=true->∃r,aA l i=some r
 |[],_,h=>by simp[ids]at h
 |(j,s)::l,i,h=>by
  simp only[ids,List.map_cons,List.contains_cons,Bool.or_eq_true,beq_iff_eq]at h;simp only[aA];split
  ·exact⟨s,rfl⟩
  ·rename_i e;exact yv (h.resolve_left e)
theorem ux:∀(m l:List (Nat×Row)) (i:Nat),(∀j r,aA m j=some r->True)->(ids m).Nodup->aA (gx l m) i=(aA m i).or (aA l i)
 |[],l,i,_,_=>by simp[gx,aA]
 |(j,s)::m,l,i,h,hn=>by
  simp only[ids,List.map_cons,List.nodup_cons]at hn;simp only[gx];rw[ux m _ i (fun _ _ _=>trivial) hn.2,bO];simp only[aA];by_cases e:i=j
  ·subst e;have:aA m i=none:=by
    cases e':aA m i with
    |none=>rfl
    |some r=>exact(hn.1 (by have:=rX e';simpa[ids]using this)).elim
   simp[this]
  ·simp[e]
def xT{P:Program}{f:FuncId}{args:List AV}{l:List (Nat×Row)}{R:AV->List (Nat×Row)->Prop}{K:AV->Hp->Prop}(hc:ab P f args l R)(Ul:∀i r,aA l i=some r->H.get i=some r)(U1:aX (fun i=>(ids l).contains i) args=true)
  (ZD:∀i r,aA l i=some r->aX (fun i=>(ids l).contains i) r.cells=true)
  (hk:∀r l',R r l'->(∀i s,aA l' i=some s->(ids l).contains i=true\/H.get i=none)/\(ids l').Nodup/\K r ⟨H.B,gx H.l l'⟩) {w:NW} {vs:Array Value} (h1:aJ w H) (h2:bs w args vs) :
  Calls P f vs w.toWorld fun e W=>∃v r H' w',W=NW.toWorld w'/\e=.returned v/\K r H'/\aJ w' H'/\ax w' r v/\Ext w H w' H':=by
 have nmO:∀i m,(w.only (ids l)).nm i m=if(ids l).contains i=true then w.nm i m else none:=fun _ _=>rfl
 have kO:Keep (fun i=>(ids l).contains i) w (w.only (ids l)):=⟨Nat.le_refl _,fun _ _ h=>⟨rfl,h⟩,fun i m z hq h=>by rw[nmO,if_pos hq];exact h⟩;have ZE:aJ (w.only (ids l)) (entry l):=by
  refine{ rows:=fun i r hi=>?_,df:=fun i m z hz=>?_,inj:=fun i m j n b t s t' s' g1 g2=>?_,own:=fun i m b t s h=>?_,fin:=h1.fin,bX:=h1.bX.aZ kO }
  ·obtain⟨g1,z,g2,g3⟩:=h1.rows i r (Ul i r hi);refine⟨g1,z,by rw[nmO,if_pos (rX (l:=l) hi)];exact g2,?_⟩;cases z with
   |nil=>exact g3
   |«at» b t s=> obtain⟨e1,cur,e2,e3,e5⟩:=g3;exact⟨e1,cur,e2,e3,fun k a v ha hv=>(e5 k a v ha hv).aZ kO (lm (ZD i r hi) ha)⟩
  ·rw[nmO]at hz;split at hz
   ·rename_i hi;obtain⟨r,hr⟩:=yv hi;obtain⟨r',e1,e2⟩:=h1.df i m z hz;rw[Ul i r hr]at e1;cases e1;exact⟨r,hr,e2⟩
   ·cases hz
  ·rw[nmO]at g1 g2;split at g1<;>split at g2
   ·exact h1.inj _ _ _ _ _ _ _ _ _ g1 g2
   ·cases g2
   ·cases g1
   ·cases g1
  ·rw[nmO]at h;split at h
   ·exact h1.own _ _ _ _ _ h
   ·cases h
 refine(hc (w.only (ids l)) vs ZE (h2.aZ kO U1)).mono ?_;rintro e W ⟨v,r,H',w',rfl,rfl,hR,g1,g2,g3⟩;obtain⟨k1,k2,k3⟩:=hk r H'.l hR;have Wq:∀i,(ids l).contains i=true->∀m z,w.nm i m=some z->w'.nm i m=some z:=fun i hi m z hz=>g3.names i m z hi (by rw[nmO,if_pos hi];exact hz)
 -- who is the callee's, then
 let cq:Nat->Prop:=fun i=>(ids l).contains i=true\/∃s,aA H'.l i=some s
 have hcq:∀i,¬cq i->(ids l).contains i=false/\aA H'.l i=none:=fun i h=>⟨by cases e:(ids l).contains i with|true=>exact(h (.inl e)).elim|false=>rfl,by cases e:aA H'.l i with|none=>rfl|some s=>exact(h (.inr ⟨s,e⟩)).elim⟩
 classical
 let w2:NW:={ w' with nm:=fun i m=>if cq i then w'.nm i m else w.nm i m }
 have nm2:∀i m,w2.nm i m=if cq i then w'.nm i m else w.nm i m:=fun _ _=>rfl
 -- the caller's other things
 have V0:∀i m b t s,¬cq i->w.nm i m=some (.at b t s)->w'.heap[b]?=w.heap[b]?/\w'.O b/\∀i m t s,w'.nm i m≠some (.at b t s):=fun i m b t s hi hn=>by
  have TS:∀i' m' t' s',(w.only (ids l)).nm i' m'≠some (.at b t' s'):=fun i' m' t' s' h=>by
   rw[nmO]at h;split at h
   ·rename_i UT;have:=h1.inj _ _ _ _ _ _ _ _ _ hn h;subst this;rw[(hcq _ hi).1]at UT;cases UT
   ·cases h
  exact g3.rest b (h1.lt hn) (h1.own _ _ _ _ _ hn) TS
 have YK:∀i,¬cq i->∀m,w'.nm i m=none:=fun i hi m=>g1.none (by exact(hcq i hi).2) m
 have k2':Keep rM w w2:=⟨g3.size,g3.free,fun i m z _ hz=>by
  rw[nm2];split
  ·rename_i hi;rcases hi with hi|⟨s,hs⟩
   ·exact Wq i hi m z hz
   ·rcases k1 i s hs with hi|hi
    ·exact Wq i hi m z hz
    ·rw[h1.none hi]at hz;cases hz
  ·exact hz⟩
 have k3':Keep rM w' w2:=⟨Nat.le_refl _,fun _ _ h=>⟨rfl,h⟩,fun i m z _ hz=>by
  rw[nm2];split
  ·exact hz
  ·rename_i hi;rw[YK i hi]at hz;cases hz⟩
 have YL:Ext w H w2 ⟨H.B,gx H.l H'.l⟩:={ k2' with
  os:=g3.os,tape:=g3.tape,output:=g3.output
  rest:=fun b hb hO TS=>by
   obtain⟨e1,e2,e3⟩:=g3.rest b hb hO fun i m t s h=>by
    rw[nmO]at h;split at h
    ·exact TS _ _ _ _ h
    ·cases h
   refine⟨e1,e2,fun i m t s h=>?_⟩;rw[nm2]at h;split at h
   ·exact e3 _ _ _ _ h
   ·exact TS _ _ _ _ h
  base:=rfl }
 have Uw:∀i,(Hp.mk H.B (gx H.l H'.l)).get i=(aA H'.l i).or (H.get i):=fun i=>ux _ _ _ (fun _ _ _=>trivial) k2
 refine⟨v,r,_,w2,rfl,rfl,k3,{ rows:=fun i s hi=>?_,df:=fun i m z hz=>?_,inj:=fun i m j n b t s t' s' e1 e2=>?_,own:=fun i m b t s h=>?_,fin:=g1.fin,bX:=h1.bX.aZ YL.toKeep },g2.aZ k3' (ny r),YL⟩
 ·rw[Uw]at hi;by_cases WZ:cq i
  ·cases e:aA H'.l i with
   |some s'=>
    rw[e]at hi;cases hi;obtain⟨e1,z,e2,e3⟩:=g1.rows i s e;refine⟨e1,z,by rw[nm2,if_pos WZ];exact e2,?_⟩;cases z with
    |nil=>exact e3
    |«at» b t st=> obtain⟨f1,cur,f2,f3,f5⟩:=e3;exact⟨f1,cur,f2,f3,fun k a v ha hv=>(f5 k a v ha hv).aZ k3' (ny a)⟩
   |none=>
    exfalso;rcases WZ with UT|⟨s',W0⟩
    ·obtain⟨r0,YM⟩:=yv UT;obtain⟨_,z,e2,_⟩:=h1.rows i r0 (Ul i r0 YM);obtain⟨r',e3,_⟩:=g1.df i r0.fN z (Wq i UT _ _ e2);rw[show H'.get i=aA H'.l i from rfl,e]at e3;cases e3
    ·rw[e]at W0;cases W0
  ·rw[(hcq i WZ).2,Option.none_or]at hi;obtain⟨e1,z,e2,e3⟩:=h1.rows i s hi;refine⟨e1,z,by rw[nm2,if_neg WZ];exact e2,e3.ext YL fun b t st e=>?_⟩;subst e;exact(V0 i _ b t st WZ e2).1
 ·rw[nm2]at hz;rw[Uw];split at hz
  ·obtain⟨s,e1,e2⟩:=g1.df i m z hz;exact⟨s,by rw[show aA H'.l i=some s from e1];rfl,e2⟩
  ·rename_i WZ;rw[(hcq i WZ).2,Option.none_or];exact h1.df i m z hz
 ·rw[nm2]at e1 e2;split at e1<;>split at e2
  ·exact g1.inj _ _ _ _ _ _ _ _ _ e1 e2
  ·rename_i _ hj;exact((V0 _ _ _ _ _ hj e2).2.2 _ _ _ _ e1).elim
  ·rename_i hi _;exact((V0 _ _ _ _ _ hi e1).2.2 _ _ _ _ e2).elim
  ·exact h1.inj _ _ _ _ _ _ _ _ _ e1 e2
 ·rw[nm2]at h;split at h
  ·exact g1.own _ _ _ _ _ h
  ·rename_i hi;exact(V0 _ _ _ _ _ hi h).2.1
def cZ(P:Program)(t:TypeId):Option Nat:=(P.info? t).map (·.size)
def dz(P:Program)(t:TypeId):Option Bool:=(P.underlying t).map fun|.struct _|.array _ _=>true|_=>false
def cF(P:Program)(t:TypeId)(f:Nat):Option Nat:=match P.underlying t with
 |some (.struct fs)=>match fs[f]? with
  |some fd=>match cZ P fd.type with
   |some (_+1)=>some fd.offset
   |_=>none
  |none=>none
 |_=>none
def ik(P:Program)(t:TypeId):Option TypeId:=match P.underlying t with
 |some (.slice e)=>some e
 |_=>none
def dN(P:Program)(t:TypeId):Option (List Value):=((P.info? t).bind (·.zero)).map fun v=>v.cells.toList
def AV.one:AV->Bool
 |.raw v=>v.oneCell'
 |.sl ..=>true
 |.ip _=>true
 |.pt ..=>true
 |.rs ..=>true
 |.rc ..=>true
 |.rv ..=>true
 |.mr _=>true
 |.dP ..=>true
 |.bd ..=>true
 |.iG ..=>true
 |.mv ..=>true
 |_=>false
def cI(l:List AV):Bool:=l.all AV.one
def AV.cells:AV->List AV
 |.agg cs=>cs
 |.raw (.agg vs)=>vs.toList.map .raw
 |v=>[v]
def Good(sz:Nat)(css:List (List AV)):Prop:=∀cs∈css,cs.length=sz/\cI cs=true
def pr(H:Hp):AV->Option (Prop×List AV)
 |.ip cs=>some (True,cs)
 |.pt i m k j=>match H.get i with
  |some (.var _ cs)=>some (m=0,cs.drop j)
  |some (.aG _ _ css)=>some (m=css.length/\k<css.length,(css.getD k []).drop j)
  |some (.mp _ _)=>none
  |none=>none
 |_=>none
theorem gl{sz:Nat}:∀{l:List (List AV)},(∀x∈l,x.length=sz)->l.flatten.length=l.length*sz
 |[],_=>by simp
 |x::l,h=>by have ih:=gl (l:=l) (fun y hy=>h y (by simp[hy]));have hx:=h x jE;simp only[List.flatten_cons,List.length_append,hx,ih,List.length_cons,Nat.add_mul,Nat.one_mul];omega
theorem qi{sz:Nat}:∀{l:List (List AV)} {i j:Nat},(∀x∈l,x.length=sz)->i<l.length->j<sz->l.flatten[i*sz+j]?=(l.getD i [])[j]?
 |[],i,j,_,h,_=>by simp at h
 |x::l,i,j,hx,hi,hj=>by
  have XW:=hx x jE;cases i with
  |zero=>simp only[List.flatten_cons,Nat.zero_mul,Nat.zero_add,List.getD_cons_zero];rw[List.getElem?_append_left jB]
  |succ i=> simp only[List.flatten_cons,List.getD_cons_succ];rw[List.getElem?_append_right (by rw[Nat.add_mul];omega),XW,show(i+1)*sz+j-sz=i*sz+j by rw[Nat.add_mul];omega];exact qi (fun y hy=>hx y (by simp[hy])) (by simpa using hi) hj
def yg{j n:Nat}(hi:i<n)(hj:j<sz):i*sz+j<n*sz:=by have:=Nat.mul_le_mul_right sz (show i+1<=n from hi);rw[Nat.add_mul]at this;omega
def vw{k n:Nat}(h:k<n*sz):∃i j,i<n/\j<sz/\k=i*sz+j:=by
 have hz:0<sz:=by rcases Nat.eq_zero_or_pos sz with rfl|h'<;>simp_all
 exact⟨k / sz,k % sz,by rw[Nat.div_lt_iff_lt_mul hz];exact h,Nat.mod_lt _ hz,by rw[Nat.mul_comm];exact(Nat.div_add_mod k sz).symm⟩
def vk{css:List (List AV)}(h:∀cs∈css,cs.length=sz){k:Nat}(hk:k<css.length):(css.getD k []).length=sz:=by
 have:css.getD k []=css[k]:=by simp[hk]
 rw[this];exact h _ (List.getElem_mem hk)
section
variable {P:Program}{w:NW}{H:Hp}
theorem ax.one{a:AV}{v:Value}(h:ax w a v)(h1:a.one=true):v.oneCell'=true:=by cases h<;>first|exact h1|rfl|simp[AV.one]at h1
def sT{w:World}(g i:Nat)(cur:Array Value)(t:TypeId)(fr:Nat×Nat)(hg:w.heap[g]?=some (.cells cur t fr)):w.cell? ⟨g,i,none⟩=cur[i]?:=by simp[World.cell?,hg]
variable{va:Value}{cs:List AV}
def GZ{a:AV}{c:Prop}(h:ax w a va)(hw:aJ w H)(hc:pr H a=some (c,cs))(WH:c) :
  ∃(ad:Addr) (vs:Nat->Value),va=.pointer (some ad)/\(∀j,j<cs.length->w.cell? (ad.add j)=some (vs j))/\∀(j:Nat) u,cs[j]?=some u->ax w u (vs j):=by
 unfold pr at hc;split at hc
 ·cases hc;cases h with
  |ip _ ad vs hb hH D' hr=>exact⟨ad,vs,rfl,D',fun j u hu=>(hr j u hu).mg⟩
 ·rename_i i m k j;cases h with
  |pt _ _ _ _ b t s hn=>
  split at hc
  ·rename_i ty cs' hi;cases hc;subst WH;obtain⟨hok,z,hz,T2⟩:=hw.rows i _ hi;have:z=.at b t s:=by have hz:w.nm i 0=some z:=hz;rw[hn]at hz;cases hz;rfl
   subst this;obtain⟨rfl,cur,hh,⟨hs,hl⟩,hr⟩:=T2;have Yr:(Row.var ty cs').bB=0:=rfl;refine⟨⟨b,k*(Row.var ty cs').bB+j,none⟩,fun q=>cur.getD (j+q) undef,rfl,fun q hq=>?_,fun q u hu=>?_⟩
   ·rw[jf,Yr,Nat.mul_zero,Nat.zero_add,sT b _ cur _ (0,0) hh];simp only[List.length_drop]at hq;have hl:cs'.length<=t:=hl;have:j+q<cur.size:=jB;simp[this]
   ·rw[List.getElem?_drop]at hu;have O':j+q<cs'.length:=(List.getElem?_eq_some_iff.1 hu).1;have hl:cs'.length<=t:=hl;have:j+q<cur.size:=jB;exact hr _ _ _ hu (by simp[this])
  ·rename_i e sz css hi;cases hc;obtain⟨rfl,hk⟩:=WH;obtain⟨hok,z,hz,T2⟩:=hw.rows i _ hi;have:z=.at b t s:=by have hz:w.nm i css.length=some z:=hz;rw[hn]at hz;cases hz;rfl
   subst this;obtain⟨hs_,cur,hh,⟨hs,hl⟩,hr⟩:=T2;have hs_:sz=s:=hs_.symm;subst hs_;have Yr:(Row.aG e sz css).bB=sz:=rfl;have I':=vk hok.2 hk;have UU:(Row.aG e sz css).cells.length=css.length*sz:=gl hok.2;refine⟨⟨b,k*sz+j,none⟩,fun q=>cur.getD (k*sz+(j+q)) undef,rfl,fun q hq=>?_,fun q u hu=>?_⟩
   ·simp only[List.length_drop,I']at hq;rw[jf,sT b _ cur _ (0,0) hh];have:=yg hk (show j+q<sz from jB);have:k*sz+(j+q)<cur.size:=jB;rw[Nat.add_assoc];simp[this]
   ·rw[List.getElem?_drop]at hu;have O':j+q<sz:=by have:=(List.getElem?_eq_some_iff.1 hu).1;omega
    have h3:=yg hk O';refine hr (k*sz+(j+q)) u _ ?_ ?_
    ·show css.flatten[k*sz+(j+q)]?=some u;rw[qi hok.2 hk O'];exact hu
    ·have:k*sz+(j+q)<cur.size:=jB;simp[this]
  ·cases hc
  ·cases hc
 ·cases hc
variable{t:TypeId}
def xG{w:World}{b:Bool}(h:dz P t=some b):(isAgg t).run P w=.ok b w:=by
 unfold dz at h;cases hu:P.underlying t with
 |none=>rw[hu]at h;cases h
 |some d=> rw[hu]at h;simp only[Option.map_some,Option.some.injEq]at h;simp only[isAgg,Sem.run_bind,run_underlying hu,Result.andThen_ok];subst h;cases d<;>rfl
def lC{w:World}{k:Nat}(h:cZ P t=some k):(sizeOf t).run P w=.ok k w:=by
 unfold cZ at h;cases hi:P.info? t with
 |none=>rw[hi]at h;cases h
 |some i=> rw[hi]at h;simp only[Option.map_some,Option.some.injEq]at h;simp[sizeOf,typeInfo,hi,h]
def uk(ag:Bool)(k:Nat)(cs:List AV):AV:=if ag then .agg (cs.take k)else cs.getD 0 .any
def IV{ad:Addr}{vs:Nat->Value}{ag:Bool}{k:Nat}(Vn:dz P t=some ag)(TU:cZ P t=some k)(hk:k<=cs.length)(Ue:1<=cs.length)
  (D':∀j,j<cs.length->w.cell? (ad.add j)=some (vs j)) (hr:∀(j:Nat) u,cs[j]?=some u->ax w u (vs j)) :
  ∃v,(loadVar t ad).run P w.toWorld=.ok v w.toWorld/\ax w (uk ag k cs) v:=by
 simp only[loadVar,Sem.run_bind,xG Vn,Result.andThen_ok];cases ag with
 |false=>
  simp only[Bool.false_eq_true,if_false,uk];have h0:=D' 0 jB;rw[BY]at h0;refine⟨vs 0,by rw[run_load];simp[h0],?_⟩;have:cs[0]?=some (cs.getD 0 .any):=by simp[List.getElem?_eq_getElem (show 0<cs.length from jB)]
  exact hr 0 _ this
 |true=>
  simp only[if_true,uk];simp only[Sem.run_bind,lC TU,Result.andThen_ok,run_loadCells w.toWorld ad k vs (fun j hj=>D' j jB),Sem.run_pure];refine⟨_,rfl,.agg _ _ jF fun i a v ha hv=>?_⟩;have hi:i<k:=by have:=(List.getElem?_eq_some_iff.1 ha).1;simp at this;omega
  rw[List.getElem?_take,if_pos hi]at ha;have T':v=vs i:=by
   have:(List.map vs (List.range k)).toArray[i]?=some (vs i):=by simp[hi]
   rw[this]at hv;cases hv;rfl
  subst T';exact hr i a ha
def Gm{a:AV}{c:Prop}{ag:Bool}{k:Nat}(h:ax w a va)(hw:aJ w H)(hc:pr H a=some (c,cs))(WH:c)(Vn:dz P t=some ag)(TU:cZ P t=some k)(hk:k<=cs.length)(Ue:1<=cs.length) :
  ∃v,(Instr.loadAt t va).run P w.toWorld=.ok v w.toWorld/\ax w (uk ag k cs) v:=by
 obtain⟨ad,vs,rfl,D',hr⟩:=GZ h hw hc WH;obtain⟨v,h1,h2⟩:=IV Vn TU hk Ue D' hr;exact⟨v,by simpa[Instr.loadAt,Instr.sureAddr]using h1,h2⟩
variable{v:Value}
def ax.gN{a:AV}(h:ax w a v)(h1:cI a.cells=true):bY w a.cells v.cells.toList:=by
 unfold AV.cells at*;split
 ·rename_i cs;cases h with
  |agg _ vs hl hr=>exact⟨by simpa[Value.cells]using hl,fun i a v ha hv=>hr i a v ha (by simpa[Value.cells]using hv)⟩
 ·rename_i vs;cases h;refine⟨by simp[Value.cells],fun i a v ha hv=>?_⟩;simp only[List.getElem?_map,Option.map_eq_some_iff]at ha;obtain⟨x,hx,rfl⟩:=ha;simp only[Value.cells]at hv;rw[hx]at hv;cases hv;exact .raw _
 ·rename_i hna hnr;have X6:a.one=true:=by simpa[cI]using h1
  have ho:=h.one X6;have Xk:v.cells=#[v]:=by cases v<;>first|rfl|simp[Value.oneCell']at ho
  rw[Xk];refine⟨rfl,fun i a' v' ha hv=>?_⟩;cases i with
  |zero=>simp at ha hv;subst ha hv;exact h
  |succ i=>simp at ha
theorem bY.cI{cs:List AV}{vs:List Value}(h:bY w cs vs)(h1:cI cs=true):∀v∈vs,v.oneCell'=true:=by
 intro v hv;obtain⟨i,hi⟩:=List.getElem?_of_mem hv;have O':i<cs.length:=by rw[h.1];exact(List.getElem?_eq_some_iff.1 hi).1
 have:=h.2 i cs[i] v (List.getElem?_eq_getElem O') hi;exact this.one (by simp only[Gd.cI,List.all_eq_true]at h1;exact h1 _ (List.getElem_mem O'))
def kz(cells:List AV)(off:Nat)(new:List AV):List AV:=cells.take off++new++cells.drop (off+new.length)
variable{new:List AV}{off:Nat}
def Fx{cells:List AV}(h:off+new.length<=cells.length):(kz cells off new).length=cells.length:=by simp[kz];omega
def Fp{cells:List AV}{p:Nat}(h:off<=cells.length):(kz cells off new)[p]?=if off<=p/\p<off+new.length then new[p-off]? else cells[p]?:=by
 unfold kz;rcases Nat.lt_or_ge p off with h1|h1
 ·rw[jN,List.append_assoc,List.getElem?_append_left jF,List.getElem?_take,if_pos h1]
 ·rcases Nat.lt_or_ge p (off+new.length)with h2|h2
  ·rw[if_pos ⟨h1,h2⟩,List.append_assoc,List.getElem?_append_right jF,List.getElem?_append_left jF];congr 1;simp;omega
  ·rw[jN,List.getElem?_append_right jF];simp only[List.length_append,List.length_take,List.getElem?_drop];congr 1;omega
variable{i:Nat}
def sG{b t:Nat}{r r':Row}{vs:List Value}(hw:aJ w H)(hi:H.get i=some r)(TV:w.nm i r.fN=some (.at b t r.bB))(hn:bY w new vs)(h1:Gd.cI new=true)(Ul:off+new.length<=t)
  (Wc:r.zU=true) (hi2:r'.zU=true) (hs:r'.bB=r.bB) (he:r'.elem=r.elem) (hv:r.fN<=r'.fN) (hok:r'.ok) (T3:r'.cells.length<=t) (YN:∀(p:Nat) a,r'.cells[p]?=some a->if off<=p/\p<off+new.length then new[p-off]?=some a else r.cells[p]?=some a) :
  ∃w':NW,(storeCells ⟨b,off,none⟩ vs).run P w.toWorld=.ok () w'.toWorld/\aJ w' (H.put i r')/\Ext w H w' (H.put i r')/\w'.nm i r'.fN=some (.at b t r.bB):=by
 obtain⟨_,z,hz,T2⟩:=hw.rows i r hi;rw[TV]at hz;cases hz;obtain⟨_,cur,hh,U9,hr⟩:=T2;rw[Row.tg Wc]at U9;obtain⟨TU,hl⟩:=U9;rw[Row.sI Wc]at hh;have I':=hn.1;have B':=run_storeCells_at P b off r.elem vs 0 cur w.toWorld hh jB (hn.cI h1);rw[Nat.add_zero]at B';generalize Wr:(cur.toList.take off++vs++cur.toList.drop (off+vs.length)).toArray=Vi at B';have YO:Vi.size=t:=by subst Wr;simp;omega
 have VW:(w.toWorld.setRow b Vi).heap[b]?=some (.cells Vi r.elem (0,0)):=setRow_heap w.toWorld b cur Vi r.elem (0,0) hh;have UG:∀c,c≠b->(w.toWorld.setRow b Vi).heap[c]?=w.heap[c]?:=fun c hc=>setRow_other w.toWorld b c Vi hc
 have Xw:(w.toWorld.setRow b Vi).heap.size=w.heap.size:=size_setRow w.toWorld b Vi;obtain⟨g1,g2⟩:=I9 (W:=w.toWorld.setRow b Vi) hw hi TV hs hv hok rfl rfl rfl Xw UG Vi (by rw[Row.sI hi2,he];exact VW) (by rw[Row.tg hi2];exact⟨YO,T3⟩) (fun p a v ha hv=>by
  have hp:=YN p a ha;have Ws:p<t:=by have:=(List.getElem?_eq_some_iff.1 ha).1;omega
  subst Wr;simp only[List.getElem?_toArray]at hv;split at hp
  ·rename_i UW;rw[List.append_assoc,List.getElem?_append_right jF,List.getElem?_append_left jF]at hv;simp only[List.length_take,Array.length_toList]at hv;rw[show p-min off cur.size=p-off from jB]at hv;exact hn.2 _ a v hp hv
  ·rename_i UW;refine hr p a v hp ?_;rcases Nat.lt_or_ge p off with h1|h1
   ·rw[List.append_assoc,List.getElem?_append_left jF,List.getElem?_take,if_pos h1]at hv;simpa using hv
   ·rw[List.getElem?_append_right jF]at hv;simp only[List.length_append,List.length_take,Array.length_toList,List.getElem?_drop]at hv;rw[show off+vs.length+(p-(min off cur.size+vs.length))=p from jB]at hv;simpa using hv)
 exact⟨_,B',g1,g2,NW.cw _ _ _ _⟩
def yW(r:Row)(k j:Nat)(new:List AV):Row:=match r with
 |.var t cs=>.var t (kz cs j new)
 |.aG e sz css=>.aG e sz (css.set k (kz (css.getD k []) j new))
 |.mp ks vs=>.mp ks vs
def An(r:Row)(m k j n:Nat):Prop:=match r with
 |.var _ cs=>m=0/\j+n<=cs.length
 |.aG _ _ css=>m=css.length/\k<css.length/\j+n<=(css.getD k []).length
 |.mp _ _=>False
def SG{ty:TypeId}{m k j n:Nat}{r:Row}{x:AV}(hw:aJ w H)(ha:ax w (.pt i m k j) va)(hi:H.get i=some r)(hx:ax w x v)(h1:Gd.cI x.cells=true)(TU:cZ P ty=some n)(hn:x.cells.length=n)(P':An r m k j n) :
  ∃w':NW,(Instr.storeAt ty va v).run P w.toWorld=.ok () w'.toWorld/\aJ w' (H.put i (yW r k j x.cells))/\Ext w H w' (H.put i (yW r k j x.cells)):=by
 have hc:=hx.gN h1;have ZF:v.cells.size=n:=by have:=hc.1;simp at this;omega
 have run:∀{W:World} (b off:Nat),(storeCells ⟨b,off,none⟩ v.cells.toList).run P w.toWorld=.ok () W->(Instr.storeAt ty (.pointer (some ⟨b,off,none⟩)) v).run P w.toWorld=.ok () W:=fun b off B'=>by simp only[Instr.storeAt,Instr.sureAddr,pure_bind,storeVar,Sem.run_bind,lC TU,Result.andThen_ok,ZF,ne_eq,not_true_eq_false,if_false];simpa using B'
 obtain⟨hok,z,hz,T2⟩:=hw.rows i r hi;cases ha with
 |pt _ _ _ _ b t s TV=>
 cases r with
 |var ty' cs=>
  obtain⟨rfl,Ul⟩:=P';have hz:w.nm i 0=some z:=hz;rw[TV]at hz;cases hz;obtain⟨rfl,cur,hh,⟨YO,hl⟩,hr⟩:=T2;have hl:cs.length<=t:=hl;have U':(Row.var ty' cs).bB=0:=rfl;have Xx:=Fx (cells:=cs) (new:=x.cells) (off:=j) jB;obtain⟨w',B',g1,g2,_⟩:=sG (P:=P) (off:=j) (r':=.var ty' (kz cs j x.cells)) hw hi TV hc h1 jB rfl rfl rfl rfl jl trivial (by show(kz cs j x.cells).length<=t;omega) (fun p a hp=>by
   have hp:(kz cs j x.cells)[p]?=some a:=hp;rw[Fp jB]at hp;split at hp
   ·rename_i h;rw[if_pos h];exact hp
   ·rename_i h;rw[if_neg h];exact hp)
  refine⟨w',run _ _ ?_,g1,g2⟩;rw[U',Nat.mul_zero,Nat.zero_add];exact B'
 |aG e sz css=>
  obtain⟨rfl,hk,Ul⟩:=P';have hz:w.nm i css.length=some z:=hz;rw[TV]at hz;cases hz;obtain⟨hs_,cur,hh,⟨YO,hl⟩,hr⟩:=T2;have hs_:sz=s:=hs_.symm;subst hs_;have U':(Row.aG e sz css).bB=sz:=rfl;have I':=vk hok.2 hk;have UU:(Row.aG e sz css).cells.length=css.length*sz:=gl hok.2;have O':j+n<=sz:=jB;have hmul:=Nat.mul_le_mul_right sz (show k+1<=css.length from hk);rw[Nat.add_mul,Nat.one_mul]at hmul;have Xx:=Fx (cells:=css.getD k []) (new:=x.cells) (off:=j) jB;have YP:∀cs∈css.set k (kz (css.getD k []) j x.cells),cs.length=sz:=fun cs h=>by
   rcases List.mem_or_eq_of_mem_set h with h|h
   ·exact hok.2 _ h
   ·rw[h,Xx,I']
  have hfl':(css.set k (kz (css.getD k []) j x.cells)).flatten.length=css.length*sz:=by rw[gl YP,List.length_set]
  obtain⟨w',B',g1,g2,_⟩:=sG (P:=P) (off:=k*sz+j) (r':=.aG e sz (css.set k (kz (css.getD k []) j x.cells))) hw hi TV hc h1 jB rfl rfl rfl rfl (by show css.length<=(css.set _ _).length;simp) ⟨hok.1,YP⟩ (by show(List.flatten _).length<=t;omega) (fun p a hp=>by
   have hp:(css.set k (kz (css.getD k []) j x.cells)).flatten[p]?=some a:=hp;have Ws:p<css.length*sz:=by have:=(List.getElem?_eq_some_iff.1 hp).1;omega
   obtain⟨q,l,hq,U6,rfl⟩:=vw Ws;rw[qi YP (by simpa using hq) U6]at hp;show if k*sz+j<=q*sz+l/\q*sz+l<k*sz+j+x.cells.length then _ else css.flatten[q*sz+l]?=some a
   rw[qi hok.2 hq U6];by_cases e':q=k
   ·subst e';have e1:(css.set q (kz (css.getD q []) j x.cells)).getD q []=kz (css.getD q []) j x.cells:=by simp[hk]
    rw[e1,Fp jB]at hp;split at hp
    ·rename_i h;rw[jP,show q*sz+l-(q*sz+j)=l-j from jB];exact hp
    ·rename_i h;rw[jN];exact hp
   ·have e1:(css.set k (kz (css.getD k []) j x.cells)).getD q []=css.getD q []:=by simp[List.getElem?_set,Ne.symm e']
    rw[e1]at hp;rw[if_neg]
    ·exact hp
    ·rintro⟨h1,h2⟩;apply e';rcases Nat.lt_trichotomy q k with h|h|h
     ·have:=Nat.mul_le_mul_right sz (show q+1<=k from h);rw[Nat.add_mul]at this;omega
     ·exact h
     ·have:=Nat.mul_le_mul_right sz (show k+1<=q from h);rw[Nat.add_mul]at this;omega)
  exact⟨w',run _ _ B',g1,g2⟩
 |mp ks vs=>exact P'.elim
def J4{x:AV}(hw:aJ w H)(hi:H.get i=none)(hx:ax w x v)(h1:Gd.cI x.cells=true) :
  ∃(u:Value) (w':NW),(Instr.box t v).run P w.toWorld=.ok u w'.toWorld/\ax w' (.pt i 0 0 0) u/\aJ w' (H.put i (.var t x.cells))/\Ext w H w' (H.put i (.var t x.cells)):=by
 have hc:=hx.gN h1;have I':x.cells.length=v.cells.size:=by have:=hc.1;simpa using this
 obtain⟨g1,g2⟩:=vy (row:=.var t x.cells) hw (hw.none hi _) (fun r' hr=>by rw[hi]at hr;cases hr) trivial v.cells ⟨rfl,by show x.cells.length<=_;omega⟩ (fun k a u ha hu=>hc.2 k a u ha (by simpa using hu));refine⟨.pointer (some ⟨w.heap.size,0,none⟩),_,by simp[Instr.box,newVar,newRow];rfl,?_,g1,g2⟩;have:=ax.pt (w:=((w.to (w.alloc ((Row.var t x.cells).obj v.cells))).ga w.heap.size).name i (Row.var t x.cells).fN (.at w.heap.size v.cells.size (Row.var t x.cells).bB)) i 0 0 0 w.heap.size v.cells.size 0 (NW.cw _ _ _ _);simpa using this
variable{zs:List Value}
def zF{w:World}(h:dN P t=some zs):∃z:Value,(zeroValue t).run P w=.ok z w/\z.cells.toList=zs:=by
 unfold dN at h;cases hi:P.info? t with
 |none=>rw[hi]at h;cases h
 |some i=> rw[hi]at h;simp only[Option.bind_some,Option.map_eq_some_iff]at h;obtain⟨z,hz,rfl⟩:=h;exact⟨z,by simp[zeroValue,typeInfo,hi,hz],rfl⟩
def Kd(hw:aJ w H)(hi:H.get i=none)(hz:dN P t=some zs) :
  ∃(u:Value) (w':NW),(Instr.alloc t true (.tuple #[])).run P w.toWorld=.ok u w'.toWorld/\ax w' (.pt i 0 0 0) u/\aJ w' (H.put i (.var t (zs.map .raw)))/\Ext w H w' (H.put i (.var t (zs.map .raw))):=by
 obtain⟨z,B',rfl⟩:=zF (w:=w.toWorld) hz;obtain⟨g1,g2⟩:=vy (row:=.var t (z.cells.toList.map .raw)) hw (hw.none hi _) (fun r' hr=>by rw[hi]at hr;cases hr) trivial z.cells ⟨rfl,by show(z.cells.toList.map AV.raw).length<=_;simp⟩ (fun k a u ha hu=>by have ha:(z.cells.toList.map AV.raw)[k]?=some a:=ha;simp only[List.getElem?_map,Array.getElem?_toList,hu,Option.map_some,Option.some.injEq]at ha;subst ha;exact .raw _)
 refine⟨.pointer (some ⟨w.heap.size,0,none⟩),_,by simp[Instr.alloc,B',newVar,newRow];rfl,?_,g1,g2⟩;have:=ax.pt (w:=((w.to (w.alloc ((Row.var t (z.cells.toList.map .raw)).obj z.cells))).ga w.heap.size).name i (Row.var t (z.cells.toList.map .raw)).fN (.at w.heap.size z.cells.size (Row.var t (z.cells.toList.map .raw)).bB)) i 0 0 0 w.heap.size z.cells.size 0 (NW.cw _ _ _ _);simpa using this
end
abbrev PA:=Prop×AV
def gZ:PA:=(False,.any)
def kg(P:Program)(w:NW)(s:Sem Value)(q:PA):Prop:=q.1->∃v,s.run P w.toWorld=.ok v w.toWorld/\ax w q.2 v
def He{P:Program}{s:Sem Value}:kg P w s gZ:=fun h=>h.elim
def jh:AV->Bool×AV
 |.gd p v=>(p,v)
 |v=>(true,v)
def xA(c x y:Bool):Bool:=if c then x else y
def ID(c a b:AV):PA:=match c with
 |.raw (.bool true)=>((jh a).1=true,(jh a).2)
 |.raw (.bool false)=>((jh b).1=true,(jh b).2)
 |_=>gZ
def nV(c a b:AV):PA:=match c,jh a,jh b with
 |.raw (.bool c),(pa,.raw (.bool x)),(pb,.raw (.bool y))=>((c=true->pa=true)/\(c=false->pb=true),.raw (.bool (xA c x y)))
 |c,_,_=>ID c a b
def oe(P:Program)(t:TypeId)(m:String):Option FuncId:=match P.info? t,P.underlying t with
 |some ti,some (.pointer _)=>match ti.methods.find? (·.name == m)with
  |some r=>if r.path.isEmpty then match r.func with
   |some (f,true)=>some f
   |_=>none
   else none
  |none=>none
 |_,_=>none
def qX(P:Program):AV->PA
 |.mv m (.iG t x)=>((oe P t m).isSome=true,.mv m (.iG t x))
 |.ip cs=>(True,.ip cs)
 |.pt i m k j=>(True,.pt i m k j)
 |.raw (.pointer (some a))=>(True,.raw (.pointer (some a)))
 |.raw (.func (.func f) x y)=>(True,.raw (.func (.func f) x y))
 |.raw (.iface t v)=>(True,.raw (.iface t v))
 |.raw (.slice a n c)=>(True,.raw (.slice a n c))
 |.raw (.map (some r))=>(True,.raw (.map (some r)))
 |_=>gZ
def sf(op:BinOp)(k:IntKind)(x y:Int):Int:=
 let a:=BitVec.ofInt k.bits x
 let b:=BitVec.ofInt k.bits y
 match op with
 |.and=>k.wrap (a &&& b).toNat
 |.or=>k.wrap (a ||| b).toNat
 |.xor=>k.wrap (a ^^^ b).toNat
 |_=>k.wrap (a &&& ~~~b).toNat
def yf(op:BinOp)(k:IntKind)(a:Int)(k':IntKind)(b:Int):PA:=match op with
 |.add=>(k=k',.raw (.int k (k.wrap (a+b))))
 |.sub=>(k=k',.raw (.int k (k.wrap (a-b))))
 |.mul=>(k=k',.raw (.int k (k.wrap (a*b))))
 |.quo=>(k=k'/\b≠0,.raw (.int k (k.wrap (a.tdiv b))))
 |.rem=>(k=k'/\b≠0,.raw (.int k (a.tmod b)))
 |.and=>(k=k',.raw (.int k (sf .and k a b)))
 |.or=>(k=k',.raw (.int k (sf .or k a b)))
 |.xor=>(k=k',.raw (.int k (sf .xor k a b)))
 |.andNot=>(k=k',.raw (.int k (sf .andNot k a b)))
 |.shl=>(0<=b,.raw (.int k (k.wrap (a*2 ^ (min b.toNat k.bits)))))
 |.shr=>(0<=b,.raw (.int k (a.fdiv (2 ^ (min b.toNat k.bits)))))
 |.eql=>(k=k',.raw (.bool (decide (a=b))))
 |.neq=>(k=k',.raw (.bool (!decide (a=b))))
 |.lss=>(k=k',.raw (.bool (decide (a<b))))
 |.leq=>(k=k',.raw (.bool (decide (a<=b))))
 |.gtr=>(k=k',.raw (.bool (decide (b<a))))
 |.geq=>(k=k',.raw (.bool (decide (b<=a))))
def yi(op:BinOp)(a b:ByteArray):PA:=match op with
 |.add=>(a.size+b.size<=9223372036854775807,.raw (.string (a++b)))
 |.eql=>(True,.raw (.bool (decide (a=b))))
 |.neq=>(True,.raw (.bool (!decide (a=b))))
 |.lss=>(True,.raw (.bool (Op.bytesLess a.toList b.toList)))
 |.gtr=>(True,.raw (.bool (!(Op.bytesLess a.toList b.toList || decide (a=b)))))
 |.leq=>(True,.raw (.bool (Op.bytesLess a.toList b.toList || decide (a=b))))
 |.geq=>(True,.raw (.bool (!(Op.bytesLess a.toList b.toList))))
 |_=>gZ
def iK:List AV->List AV->Bool
 |[],[]=>true
 |.raw (.int _ a)::l,.raw (.int _ b)::m=>decide (a=b) && iK l m
 |.raw (.string a)::l,.raw (.string b)::m=>decide (a=b) && iK l m
 |.raw (.bool a)::l,.raw (.bool b)::m=>(a == b) && iK l m
 |_,_=>false
def tu(P:Program)(t:TypeId):Bool:=match P.underlying t with
 |some (.pointer _)=>true
 |_=>false
def zJ(P:Program)(t:TypeId):Bool:=match P.underlying t with
 |some (.interface _)=>true
 |_=>false
def wH(P:Program)(t:TypeId):Bool:=match P.underlying t with
 |some .bool=>true
 |_=>false
def tv(P:Program)(t:TypeId):Bool:=match P.underlying t with
 |some .string=>true
 |_=>false
def gW(P:Program)(t:TypeId):Bool:=match P.underlying t with
 |some (.slice _)=>true
 |_=>false
inductive LK where
 |int (k:IntKind)|str|bool
 deriving DecidableEq
def jQ:AV->Option LK
 |.raw (.int k _)=>some (.int k)
 |.raw (.string _)=>some .str
 |.raw (.bool _)=>some .bool
 |_=>none
def xE(P:Program)(leafK:TypeId->Option (List LK)):Nat->List Field->Option (List LK)
 |_,[]=>some []
 | off, f :: fs => if f.name ≠ "_" ∧ f.offset = off then match leafK f.type, cZ P f.type with
   |some ks,some k=>if ks.length=k then(xE P leafK (off+k) fs).map (ks++·)else none
   |_,_=>none
  else none
def ta(P:Program):Nat->TypeId->Option (List LK)
 |0,_=>none
 |d+1,t=>match P.underlying t with
  |some (.int k)=>some [.int k]
  |some .string=>some [.str]
  |some .bool=>some [.bool]
  |some (.struct fs)=>if P.stoodInHeld t then none else xE P (ta P d) 0 fs.toList
  |_=>none
def zr(P:Program)(t:TypeId):Option (List LK):=if P.eqGuardType P.depth t then none else ta P 8 t
def wR(P:Program)(ne:Bool)(t:TypeId)(x y:AV):PA:=match x,y with
 |.raw (.bool a),.raw (.bool b)=>(wH P t=true,.raw (.bool (ne ^^ (a == b))))
 |.raw (.pointer none),.raw (.pointer b)=>(tu P t=true,.raw (.bool (ne ^^ b.isNone)))
 |.raw (.pointer (some _)),.raw (.pointer none)=>(tu P t=true,.raw (.bool ne))
 |.ip _,.raw (.pointer none)=>(tu P t=true,.raw (.bool ne))
 |.pt ..,.raw (.pointer none)=>(tu P t=true,.raw (.bool ne))
 |.raw (.slice none _ _),.raw (.slice b _ _)=>(gW P t=true,.raw (.bool (ne ^^ b.isNone)))
 |.raw (.slice (some _) _ _),.raw (.slice none _ _)=>(gW P t=true,.raw (.bool ne))
 |.sl _ _ css _,.raw (.slice none _ _)=>(gW P t=true/\css≠[],.raw (.bool ne))
 |.agg cs,.agg ds=>match zr P t with
  |some ks=>(dz P t=some true/\cs.map jQ=ks.map some/\ds.map jQ=ks.map some,.raw (.bool (ne ^^ iK cs ds)))
  |none=>gZ
 |_,_=>gZ
def fC(P:Program)(op:BinOp)(t:TypeId)(x y:AV):PA:=match x,y with
 |.raw (.int k a),.raw (.int k' b)=>yf op k a k' b
 |.raw (.string a),.raw (.string b)=>yi op a b
 |x,y=>match op with
  |.eql=>wR P false t x y
  |.neq=>wR P true t x y
  |_=>gZ
def sV(op:UnOp)(x:AV):PA:=match op,x with
 |.not,.raw (.bool b)=>(True,.raw (.bool (!b)))
 |.neg,.raw (.int k n)=>(True,.raw (.int k (k.wrap (0-n))))
 |_,_=>gZ
def oY(P:Program)(H:Hp)(t:TypeId)(a:AV):PA:=match pr H a,dz P t,cZ P t with
 |some (c,cs),some true,some k=>(c/\k<=cs.length/\1<=cs.length,.agg (cs.take k))
 |some (c,cs),some false,some k=>(c/\k<=cs.length/\1<=cs.length,cs.getD 0 .any)
 |_,_,_=>gZ
def sZ(P:Program)(t:TypeId)(a:AV)(f:Nat):PA:=match a,cF P t f with
 |.ip cs,some off=>(True,.ip (cs.drop off))
 |.pt i m k j,some off=>(True,.pt i m k (j+off))
 |_,_=>gZ
def vX(P:Program)(t:TypeId)(f:Nat):Option (TypeId×Nat):=match P.underlying t with
 |some (.struct fs)=>(fs[f]?).map fun fd=>(fd.type,fd.offset)
 |_=>none
def xZ(P:Program)(t:TypeId)(cs:List AV)(off:Nat):PA:=match dz P t,cZ P t with
 |some true,some k=>(off+k<=cs.length,.agg ((cs.drop off).take k))
 |some false,some _=>(off<cs.length,cs.getD off .any)
 |_,_=>gZ
def uT(P:Program)(t:TypeId)(a:AV)(f:Nat):PA:=match a,vX P t f with
 |.agg cs,some (ft,off)=>xZ P ft cs off
 |_,_=>gZ
def iA(P:Program)(t:TypeId):Option Nat:=(ik P t).bind (cZ P)
def yP(P:Program)(t:TypeId):Option (Nat×Nat):=match P.underlying t with
 |some (.array len e)=>(cZ P e).map fun s=>(len,s)
 |_=>none
def zt(o:Option (Nat×Nat))(i:Int)(f:Nat->AV):PA:=match o with
 |some (len,s)=>(0<=i/\i<len,f (i.toNat*s))
 |none=>gZ
def sJ(P:Program)(t:TypeId)(a i:AV):PA:=match a,i with
 |.sl _ sz css d,.raw (.int _ i)=>(iA P t=some sz/\0<=i/\i<css.length,.ip (css.getD i.toNat d))
 |.rs d m sz n,.raw (.int _ i)=>(iA P t=some sz/\0<=i/\i<n,.pt d m i.toNat 0)
 |.rc d m sz n,.raw (.int _ i)=>(iA P t=some sz/\0<=i/\i<n,.pt d m i.toNat 0)
 |.rv d m sz o n,.raw (.int _ i)=>(iA P t=some sz/\0<=i/\i<n,.pt d m (o+i.toNat) 0)
 |.pt d m k j,.raw (.int _ i)=>zt (yP P t) i fun o=>.pt d m k (j+o)
 |.ip cs,.raw (.int _ i)=>zt (yP P t) i fun o=>.ip (cs.drop o)
 |_,_=>gZ
def eG(s:ByteArray)(i:Int):Int:=((s.data[i.toNat]?.getD 0).toNat:Int)
def sk(P:Program)(t:TypeId)(a i:AV):PA:=match a,i with
 |.raw (.string s),.raw (.int _ i)=>(tv P t=true/\0<=i/\i<s.size,.raw (.int .u8 (eG s i)))
 |_,_=>gZ
def uM(a:AV)(i:Nat):PA:=match a with
 |.aQ vs=>(i<vs.length,vs.getD i .any)
 |_=>gZ
def qU:Option AV->Option (Option Int)
 |none=>some none
 |some (.raw (.int _ i))=>some (some i)
 |_=>none
def sd(P:Program)(t:TypeId)(a:AV)(lo hi mx:Option AV):PA:=match a,qU lo,qU hi,qU mx with
 |.raw (.string s),some lo,some hi,some none=>(tv P t=true/\0<=lo.getD 0/\lo.getD 0<=hi.getD s.size/\hi.getD s.size<=s.size,.raw (.string (s.extract (lo.getD 0).toNat (hi.getD s.size).toNat)))
 |.sl _ sz css d,some lo,some hi,some none=> (iA P t=some sz/\0<=lo.getD 0/\lo.getD 0<=hi.getD css.length/\hi.getD css.length<=css.length,.sl false sz ((css.drop (lo.getD 0).toNat).take ((hi.getD css.length).toNat-(lo.getD 0).toNat)) d)
 |.rs d m sz n,some none,some hi,some none=>(iA P t=some sz/\0<=hi.getD n/\hi.getD n<=n,.rs d m sz (hi.getD n).toNat)
 |.rs d m sz n,some (some lo),some hi,some none=>(iA P t=some sz/\0<=lo/\lo<=hi.getD n/\hi.getD n<=n,.rv d m sz lo.toNat ((hi.getD n).toNat-lo.toNat))
 |.rc d m sz n,some none,some hi,some none=>(iA P t=some sz/\0<=hi.getD n/\hi.getD n<=m,.rc d m sz (hi.getD n).toNat)
 |.rc d m sz n,some (some lo),some hi,some none=>(iA P t=some sz/\0<=lo/\lo<=hi.getD n/\hi.getD n<=m,.rv d m sz lo.toNat ((hi.getD n).toNat-lo.toNat))
 |.rc d m sz n,some lo,some (some hi),some (some mx)=>(iA P t=some sz/\0<=lo.getD 0/\lo.getD 0<=hi/\hi<=mx/\mx<=m,.rv d m sz (lo.getD 0).toNat (hi.toNat-(lo.getD 0).toNat))
 |.rv d m sz o n,some lo,some hi,some none=>(iA P t=some sz/\0<=lo.getD 0/\lo.getD 0<=hi.getD n/\hi.getD n<=n,.rv d m sz (o+(lo.getD 0).toNat) ((hi.getD n).toNat-(lo.getD 0).toNat))
 |.rs d m sz n,some lo,some (some hi),some (some mx)=>(iA P t=some sz/\0<=lo.getD 0/\lo.getD 0<=hi/\hi<=mx/\mx<=n,.rv d m sz (lo.getD 0).toNat (hi.toNat-(lo.getD 0).toNat))
 |.raw (.slice none 0 0),some lo,some hi,some none=>(gW P t=true/\(iA P t).isSome=true/\lo.getD 0=0/\hi.getD 0=0,.raw (.slice none 0 0))
 |_,_,_,_=>gZ
def Dh:List AV->Option (List Value)
 |[]=>some []
 |.raw v::l=>(Dh l).map (v::·)
 |_=>none
def vC(fn:Fn)(first captured:List AV):PA:=match fn,first with
 |.func f,[]=>(True,.dP f captured)
 |.func f,x::l=>(captured=[],.bd f (x::l))
 |.method m,[x]=>(captured=[],.mv m x)
 |_,_=>gZ
def vR(P:Program)(t:TypeId)(x:AV):PA:=match x,zJ P t,P.underlying t with
 |.raw v,false,some _=>(True,.raw (.iface t v))
 |a,false,some _=>(True,.iG t a)
 |_,_,_=>gZ
def HD(P:Program)(t:TypeId):Option IntKind:=match P.underlying t with
 |some (.int k)=>some k
 |_=>none
def zS(P:Program)(s d:TypeId)(x:AV):PA:=match x,HD P d with
 |.raw (.int _ n),some k=>((P.underlying s).isSome=true,.raw (.int k (k.wrap n)))
 |.raw (.string s'),none=>((P.underlying s).isSome=true/\tv P d=true,.raw (.string s'))
 |_,_=>gZ
def AK(P:Program)(t:TypeId):Bool:=match P.underlying t with
 |some (.map _ _)=>true
 |_=>false
def tU(P:Program)(H:Hp)(t:TypeId)(x:AV):PA:=match x with
 |.mr i=>if jV.contains t=true then(match H.get i with
  |some (.mp ks _)=>(AK P t=true,.raw (.int .i64 ks.length))
  |_=>gZ)else gZ
 |.sl _ _ css _=>(gW P t=true,.raw (.int .i64 css.length))
 |.rs _ _ _ n=>(gW P t=true,.raw (.int .i64 n))
 |.rc _ _ _ n=>(gW P t=true,.raw (.int .i64 n))
 |.rv _ _ _ _ n=>(gW P t=true,.raw (.int .i64 n))
 |.raw (.slice _ n _)=>(gW P t=true,.raw (.int .i64 n))
 |.raw (.string s)=>(tv P t=true,.raw (.int .i64 s.size))
 |_=>gZ
def zh(P:Program)(t:TypeId)(x:AV):PA:=match x with
 |.sl true _ css _=>(gW P t=true,.raw (.int .i64 css.length))
 |.rc _ m _ _=>(gW P t=true,.raw (.int .i64 m))
 |.raw (.slice _ _ n)=>(gW P t=true,.raw (.int .i64 n))
 |_=>gZ
def xy(mx:Bool)(args:List AV):PA:=match args with
 |[.raw (.int k a),.raw (.int k' b)]=>(k=k',.raw (.int k (if mx then(if b>a then b else a)else(if b<a then b else a))))
 |_=>gZ
def mf(P:Program)(H:Hp)(b:Builtin)(ts:List TypeId)(args:List AV):PA:=match b,ts,args with
 |.len,t::_,x::_=>tU P H t x
 |.cap,t::_,x::_=>zh P t x
 |.max,_,args=>xy true args
 |.min,_,args=>xy false args
 |_,_,_=>gZ
def iW(P:Program)(t:TypeId):Option (List (Nat×Nat)):=match P.underlying t with
 |some (.struct fs)=>fs.toList.mapM fun f=>(cZ P f.type).map fun k=>(f.offset,k)
 |_=>none
def rN(pl:Nat->Option (Nat×Nat))(cells:List AV):List (Nat×AV)->Option (List AV)
 |[]=>some cells
 |(i,a)::rest=>match pl i with
  |some (off,k)=>if a.cells.length=k/\off+k<=cells.length then rN pl (kz cells off a.cells) rest else none
  |none=>none
def uY(P:Program)(t:TypeId)(parts:List (Nat×AV)):PA:=match dN P t,iW P t with
 |some zs,some pl=>match rN (fun i=>pl[i]?) (zs.map .raw) parts with
  |some cs=>(cI ((parts.map fun p=>p.2.cells).flatten)=true,.agg cs)
  |none=>gZ
 |_,_=>gZ
def vq(P:Program)(ev:Operand->AV)(H:Hp):Op->PA
 |.move x=>(True,ev x)
 |.assign x=>(True,ev x)
 |.pick c a b=>nV (ev c) (ev a) (ev b)
 |.nilCheck x=>qX P (ev x)
 |.binOp op t x y _=>fC P op t (ev x) (ev y)
 |.unOp op _ x=>sV op (ev x)
 |.load t a=>oY P H t (ev a)
 |.fieldAddr t a f=>sZ P t (ev a) f
 |.field t a f=>uT P t (ev a) f
 |.indexAddr t a i=>sJ P t (ev a) (ev i)
 |.index t a i=>sk P t (ev a) (ev i)
 |.extract a i=>uM (ev a) i
 |.slice t a lo hi mx=>sd P t (ev a) (lo.map ev) (hi.map ev) (mx.map ev)
 |.makeFunc fn first captured=>vC fn (first.toList.map ev) (captured.toList.map ev)
 |.makeInterface t x=>vR P t (ev x)
 |.convert s d x=>zS P s d (ev x)
 |.build t parts=>uY P t (parts.toList.map fun p=>(p.1,ev p.2))
 |.call { callee:=.builtin b,args,argTypes }=>mf P H b argTypes.toList (args.toList.map ev)
 |_=>gZ
section
variable {P:Program}{w:NW}{H:Hp}
def dc{v u:Value}(h:ax w (.raw v) u):u=v:=by cases h;rfl
def Cc(a b:Int):(a == b)=decide (a=b):=by rw[Bool.eq_iff_iff];simp
def xu(a b:ByteArray):(a.toList == b.toList)=decide (a=b):=by
 rw[Bool.eq_iff_iff,beq_iff_eq,decide_eq_true_iff];constructor
 ·intro h;exact ByteArray.ext (by simpa[ByteArray.toList_eq]using h)
 ·rintro rfl;rfl
def zv{a:AV}{lk:LK}(h:jQ a=some lk):match lk with
  |.int k=>∃n,a=.raw (.int k n)
  |.str=>∃s,a=.raw (.string s)
  |.bool=>∃b,a=.raw (.bool b):=by
 unfold jQ at h;split at h<;>cases h<;>exact⟨_,rfl⟩
theorem H9:∀{a c b d:List AV},a.map jQ=c.map jQ->(∀x∈a,(jQ x).isSome=true)->iK (a++b) (c++d)=(iK a c && iK b d)
 |[],[],b,d,_,_=>by simp[iK]
 |[],_::_,_,_,h,_=>by simp at h
 |_::_,[],_,_,h,_=>by simp at h
 |x::a,y::c,b,d,h,hs=>by simp only[List.map_cons,List.cons.injEq]at h;have ih:=H9 (b:=b) (d:=d) h.2 (fun z hz=>hs z (by simp[hz]));obtain⟨lk,hx⟩:=Option.isSome_iff_exists.1 (hs x jE);have hy:=h.1.symm.trans hx;have h1:=zv hx;have h2:=zv hy;cases lk<;>(obtain⟨u,rfl⟩:=h1;obtain⟨v,rfl⟩:=h2;simp only[List.cons_append,iK,ih,Bool.and_assoc])
variable{cs:List AV}
def Cl{ks:List LK}(h:cs.map jQ=ks.map some):(∀x∈cs,(jQ x).isSome=true)/\cs.length=ks.length:=by refine⟨fun x hx=>?_,by have:=congrArg List.length h;simpa using this⟩;have:jQ x∈cs.map jQ:=List.mem_map.2 ⟨x,hx,rfl⟩;rw[h]at this;obtain⟨k,_,hk⟩:=List.mem_map.1 this;rw[<-hk];rfl
variable{t:TypeId}
def JP{lk:LK}{a b:AV}{va vb:Value}(ht:P.underlying t=some (match lk with|.int k=>.int k|.str=>.string|.bool=>.bool))(ha:ax w a va)(hb:ax w b vb)(ZG:jQ a=some lk)(hkb:jQ b=some lk)(d:Nat) :
  (Op.equalIn (d+1) t va vb).run P w.toWorld=.ok (iK [a] [b]) w.toWorld:=by
 have h1:=zv ZG;have h2:=zv hkb;cases lk with
 |int k=>
  obtain⟨m,rfl⟩:=h1;obtain⟨n,rfl⟩:=h2;have:=dc ha;have:=dc hb;subst_vars
  rw[run_equalIn_int w d t k k _ _ ht];simp[iK,Cc]
 |str=>
  obtain⟨m,rfl⟩:=h1;obtain⟨n,rfl⟩:=h2;have:=dc ha;have:=dc hb;subst_vars
  rw[run_equalIn_string w d t _ _ ht,xu];simp[iK]
 |bool=>
  obtain⟨m,rfl⟩:=h1;obtain⟨n,rfl⟩:=h2;have:=dc ha;have:=dc hb;subst_vars
  rw[run_equalIn_bool w d t _ _ ht];simp[iK]
def A3(P:Program)(t:TypeId)(v:Value)(vs:List Value):Prop:=(dz P t=some true/\v=.agg vs.toArray)\/(dz P t=some false/\vs=[v])
def EH{xs:Array Value}{off k:Nat}(Vn:(dz P t).isSome=true)(TU:cZ P t=some k)(h1:dz P t=some false->k=1)(Ul:off+k<=xs.size) :
  ∃v,(part t xs off).run P w.toWorld=.ok v w.toWorld/\A3 P t v ((xs.toList.drop off).take k):=by
 obtain⟨ag,Vn⟩:=Option.isSome_iff_exists.1 Vn;cases ag with
 |true=>
  refine⟨.agg (xs.extract off (off+k)),by simp[part,xG Vn,lC TU],.inl ⟨Vn,?_⟩⟩;congr 1
  apply Array.ext';simp[Array.toList_extract,List.extract_eq_take_drop]
 |false=> obtain rfl:=h1 Vn;have h2:xs[off]?=some (xs[off]' jB):=Array.getElem?_eq_getElem jB;refine⟨xs[off]' jB,by simp[part,xG Vn,h2],.inr ⟨Vn,?_⟩⟩;rw[List.drop_eq_getElem_cons jF];simp
variable{vs:List Value}
def IE(h:bY w cs vs)(n:Nat):bY w (cs.drop n) (vs.drop n):=⟨by simp[h.1],fun i a v ha hv=>h.2 (n+i) a v (by simpa using ha) (by simpa using hv)⟩
def I6(h:bY w cs vs)(n:Nat):bY w (cs.take n) (vs.take n):=⟨by simp[h.1],fun i a v ha hv=>by
 rw[List.getElem?_take]at ha hv;split at ha
 ·rename_i hi;rw[if_pos hi]at hv;exact h.2 i a v ha hv
 ·cases ha⟩
def Sx:∀(n:Nat),(∀(t:TypeId) (ks:List LK),ta P n t=some ks->∀(d:Nat) (v v':Value) (cs ds:List AV) (vs us:List Value),A3 P t v vs->A3 P t v' us->bY w cs vs->bY w ds us->cs.map jQ=ks.map some->ds.map jQ=ks.map some->
   (Op.equalIn (d+n) t v v').run P w.toWorld=.ok (iK cs ds) w.toWorld):=by
 intro n;induction n with
 |zero=>intro t ks h;simp[ta]at h
 |succ n ih=>
  intro t ks hk d v v' cs ds vs us hv T' UD Wt h1 h2;have leaf:∀lk:LK,P.underlying t=some (match lk with|.int k=>.int k|.str=>.string|.bool=>.bool)->ks=[lk]->dz P t=some false->(Op.equalIn (d+(n+1)) t v v').run P w.toWorld=.ok (iK cs ds) w.toWorld:=by
   rintro lk ht rfl Vn;have e1:vs=[v]:=by
    rcases hv with⟨h,_⟩|⟨_,h⟩
    ·rw[Vn]at h;cases h
    ·exact h
   have e2:us=[v']:=by
    rcases T' with⟨h,_⟩|⟨_,h⟩
    ·rw[Vn]at h;cases h
    ·exact h
   subst e1 e2;match cs,ds,h1,h2 with
   |[a],[b],h1,h2=> exact JP ht (UD.2 0 _ _ rfl rfl) (Wt.2 0 _ _ rfl rfl) (by simpa using h1) (by simpa using h2) (d+n)
  unfold ta at hk;split at hk
  ·rename_i k hu;exact leaf (.int k) hu (by simpa using hk.symm) (by simp[dz,hu])
  ·rename_i hu;exact leaf .str hu (by simpa using hk.symm) (by simp[dz,hu])
  ·rename_i hu;exact leaf .bool hu (by simpa using hk.symm) (by simp[dz,hu])
  ·rename_i fs hu;split at hk
   ·cases hk
   ·rename_i P';have Vn:dz P t=some true:=by simp[dz,hu]
    have e1:v=.agg vs.toArray:=by
     rcases hv with⟨_,h⟩|⟨h,_⟩
     ·exact h
     ·rw[Vn]at h;cases h
    have e2:v'=.agg us.toArray:=by
     rcases T' with⟨_,h⟩|⟨h,_⟩
     ·exact h
     ·rw[Vn]at h;cases h
    subst e1 e2;have hf:P.fieldsOf t=fs:=by simp[Program.fieldsOf,hu]
    rw[show d+(n+1)=(d+n)+1 from jB,run_equalIn_struct w (d+n) t _ _ (by rw[hf];exact hu) (by simpa using P'),hf];have gen:∀(l:List Field) (off:Nat) (ks:List LK),xE P (ta P n) off l=some ks->off<=cs.length->off<=ds.length->(cs.drop off).map jQ=ks.map some->(ds.drop off).map jQ=ks.map some->
      (Op.eqFields (d+n) vs.toArray us.toArray l).run P w=.ok (iK (cs.drop off) (ds.drop off)) w:=by
     intro l;induction l with
     |nil=>
      intro off ks hk _ _ g1 g2;simp only[xE,Option.some.injEq]at hk;subst hk;have c1:cs.drop off=[]:=by simpa using g1
      have c2:ds.drop off=[]:=by simpa using g2
      rw[c1,c2];simp[Op.eqFields,iK]
     |cons f l ihl=>
      intro off ks hk o1 o2 g1 g2;unfold xE at hk;split at hk
      ·rename_i TS;obtain⟨Wd,rfl⟩:=TS;split at hk
       ·rename_i ks1 k e1 e2;split at hk
        ·rename_i Vf;simp only[Option.map_eq_some_iff]at hk;obtain⟨ks2,TY,rfl⟩:=hk;have l1:=(Cl g1).2;have l2:=(Cl g2).2;have ag:(dz P f.type).isSome=true/\(dz P f.type=some false->k=1):=by
          cases n with
          |zero=>simp[ta]at e1
          |succ n=>
           unfold ta at e1;split at e1
           ·rename_i hu;refine⟨by simp[dz,hu],fun _=>?_⟩;cases e1;exact Vf.symm
           ·rename_i hu;refine⟨by simp[dz,hu],fun _=>?_⟩;cases e1;exact Vf.symm
           ·rename_i hu;refine⟨by simp[dz,hu],fun _=>?_⟩;cases e1;exact Vf.symm
           ·rename_i hu;exact⟨by simp[dz,hu],fun h=>by simp[dz,hu]at h⟩
           ·cases e1
         have X7:=UD.1;have hul:=Wt.1;simp only[List.length_drop,List.length_append]at l1 l2;obtain⟨x,hx,cx⟩:=EH (P:=P) (w:=w) (xs:=vs.toArray) (off:=f.offset) ag.1 e2 ag.2 jF;obtain⟨y,hy,cy⟩:=EH (P:=P) (w:=w) (xs:=us.toArray) (off:=f.offset) ag.1 e2 ag.2 jF;simp only[List.map_append]at g1 g2;have split1:∀{zs:List AV},(zs.drop f.offset).map jQ=ks1.map some++ks2.map some->((zs.drop f.offset).take k).map jQ=ks1.map some/\(zs.drop (f.offset+k)).map jQ=ks2.map some:=by
          intro zs h;have e:k=(ks1.map some).length:=by simp[Vf]
          constructor
          ·rw[List.map_take,h,e,List.take_left'];rfl
          ·rw[<-List.drop_drop,List.map_drop,h,e,List.drop_left'];rfl
         obtain⟨a1,a2⟩:=split1 g1;obtain⟨b1,b2⟩:=split1 g2;have Wu:=ih f.type ks1 e1 d x y _ _ _ _ cx cy (I6 (IE UD f.offset) k) (I6 (IE Wt f.offset) k) a1 b1;have T5:=ihl (f.offset+k) ks2 TY jB jB a2 b2;have YQ:iK (cs.drop f.offset) (ds.drop f.offset)=(iK ((cs.drop f.offset).take k) ((ds.drop f.offset).take k) && iK (cs.drop (f.offset+k)) (ds.drop (f.offset+k))):=by rw[<-H9 (by rw[a1,b1]) (Cl a1).1,<-List.drop_drop,<-List.drop_drop,List.take_append_drop,List.take_append_drop]
         simp only[Op.eqFields,ne_eq,Wd,not_false_eq_true,if_true,Sem.run_bind,hx,hy,Wu,Result.andThen_ok];rw[YQ];cases hb:iK ((cs.drop f.offset).take k) ((ds.drop f.offset).take k)
         ·simp
         ·simp only[Bool.not_true,Bool.false_eq_true,if_false,Bool.true_and];exact T5
        ·cases hk
       ·cases hk
      ·cases hk
    have:=gen fs.toList 0 ks hk (Nat.zero_le _) (Nat.zero_le _) (by simpa using h1) (by simpa using h2);simpa using this
  ·cases hk
def SZ{ne:Bool}{ds:List AV}{va vb:Value}{ks:List LK}{x y:Operand}(hk:zr P t=some ks)(Vn:dz P t=some true)(h1:cs.map jQ=ks.map some)(h2:ds.map jQ=ks.map some)(ha:ax w (.agg cs) va)(hb:ax w (.agg ds) vb) :
  ∃v,(do eqGuard (if ne then .neq else .eql) t x y va vb;binOp (if ne then .neq else .eql) t va vb:Sem Value).run P w.toWorld=.ok v w.toWorld/\ax w (.raw (.bool (ne ^^ iK cs ds))) v:=by
 unfold zr at hk;split at hk
 ·cases hk
 ·rename_i hg;cases ha with|agg _ vs l1 r1=>
  cases hb with|agg _ us l2 r2=>
  have he:=Sx (P:=P) (w:=w) 8 t ks hk 9992 (.agg vs) (.agg us) cs ds vs.toList us.toList (.inl ⟨Vn,jE⟩) (.inl ⟨Vn,jE⟩) ⟨by simpa using l1,fun i a v ha hv=>r1 i a v ha (by simpa using hv)⟩ ⟨by simpa using l2,fun i a v ha hv=>r2 i a v ha (by simpa using hv)⟩ h1 h2;have W4:∀op,(eqGuard op t x y (.agg vs) (.agg us)).run P w.toWorld=.ok () w.toWorld:=fun op=>run_eqGuard_agg w op t x y vs us (by simpa using hg)
  have Ys:(Op.equalIn 10000 t (.agg vs) (.agg us)).run P w.toWorld=.ok (iK cs ds) w.toWorld:=he;cases ne
  ·simp only[Bool.false_eq_true,if_false,Sem.run_bind,W4,Result.andThen_ok,run_eql_struct,Ys];exact⟨_,rfl,by simpa using ax.raw _⟩
  ·simp only[if_true,Sem.run_bind,W4,Result.andThen_ok,run_neq_struct,Ys];exact⟨_,rfl,by simpa using ax.raw _⟩
end
section
variable {P:Program}{w:NW}{H:Hp}
variable{a:AV}{v:Value}
def xK(h:ax w a v)(hp:(jh a).1=true):ax w (jh a).2 v:=by
 unfold jh at*;split
 ·cases h with|gd p a v hh hu=>exact hh hp
 ·exact h
variable{va vb:Value}
def FX{c b:AV}{vc:Value}(hc:ax w c vc)(ha:ax w a va)(hb:ax w b vb):kg P w (do pure (if<-asBool vc then va else vb)) (nV c a b):=by
 intro hq;unfold nV at*;split at hq
 ·rename_i cb pa x pb y e1 e2;have:=dc hc;subst this;cases cb with
  |true=> have h:=xK ha (by rw[e1];exact hq.1 rfl);rw[e1]at h;have:=dc h;subst this;exact⟨.bool x,by simp[asBool],by simpa[xA]using ax.raw _⟩
  |false=> have h:=xK hb (by rw[e2];exact hq.2 rfl);rw[e2]at h;have:=dc h;subst this;exact⟨.bool y,by simp[asBool],by simpa[xA]using ax.raw _⟩
 ·unfold ID at*;split at hq
  ·have:=dc hc;subst this;exact⟨va,by simp[asBool],xK ha hq⟩
  ·have:=dc hc;subst this;exact⟨vb,by simp[asBool],xK hb hq⟩
  ·exact hq.elim
def Mc(op:BinOp)(t:TypeId)(k:IntKind)(a:Int)(k':IntKind)(b:Int)(x y:Operand):kg P w (do eqGuard op t x y (.int k a) (.int k' b);binOp op t (.int k a) (.int k' b)) (yf op k a k' b):=by
 intro hq;cases op<;>simp only[yf]at hq ⊢
 case shl=> have h0:¬b<0:=jB;exact⟨_,by simp[eqGuard_at_int,binOp,Op.shift,h0],.raw _⟩
 case shr=> have h0:¬b<0:=jB;exact⟨_,by simp[eqGuard_at_int,binOp,Op.shift,h0],.raw _⟩
 case quo=>obtain⟨rfl,h0⟩:=hq;exact⟨_,by simp[eqGuard_at_int,binOp,Op.intDiv,h0],.raw _⟩
 case rem=>obtain⟨rfl,h0⟩:=hq;exact⟨_,by simp[eqGuard_at_int,binOp,Op.intDiv,h0],.raw _⟩
 case and=>subst hq;exact⟨_,by simp[eqGuard_at_int,binOp,Op.intBits,sf],.raw _⟩
 case or=>subst hq;exact⟨_,by simp[eqGuard_at_int,binOp,Op.intBits,sf],.raw _⟩
 case xor=>subst hq;exact⟨_,by simp[eqGuard_at_int,binOp,Op.intBits,sf],.raw _⟩
 case andNot=>subst hq;exact⟨_,by simp[eqGuard_at_int,binOp,Op.intBits,sf],.raw _⟩
 case eql=>subst hq;exact⟨.bool (decide (a=b)),by simp[eqGuard_at_int,binOp,Op.intCmp,Cc],.raw _⟩
 case neq=>subst hq;exact⟨.bool (!decide (a=b)),by simp[eqGuard_at_int,binOp,Op.intCmp,bne,Cc],.raw _⟩
 all_goals(subst hq;exact⟨_,by simp[eqGuard_at_int,binOp,Op.intArith,Op.intCmp];try rfl,.raw _⟩)
def NI(op:BinOp)(t:TypeId)(a b:ByteArray)(x y:Operand):kg P w (do eqGuard op t x y (.string a) (.string b);binOp op t (.string a) (.string b)) (yi op a b):=by
 intro hq;cases op<;>simp only[yi]at hq ⊢
 case add=>
  have h0:¬(((a.size+b.size:Nat):Int)>IntKind.i64.max):=by rw[IntKind.max_i64];omega
  exact⟨_,by simp only[eqGuard_at_string,binOp,Op.stringOp,pure_bind,if_neg h0,Sem.run_pure],.raw _⟩
 case eql=>exact⟨_,by simp[eqGuard_at_string,binOp,Op.stringOp,xu],.raw _⟩
 case neq=>exact⟨_,by simp[eqGuard_at_string,binOp,Op.stringOp,xu],.raw _⟩
 case lss=>exact⟨_,by simp[eqGuard_at_string,binOp,Op.stringOp],.raw _⟩
 case gtr=>exact⟨_,by simp[eqGuard_at_string,binOp,Op.stringOp,xu],.raw _⟩
 case leq=>exact⟨_,by simp[eqGuard_at_string,binOp,Op.stringOp,xu],.raw _⟩
 case geq=>exact⟨_,by simp[eqGuard_at_string,binOp,Op.stringOp],.raw _⟩
 all_goals exact hq.elim
variable{t:TypeId}
def RY{m:String}(h:(oe P t m).isSome=true)(v:Value)(W:World):(nilAhead (P.types.size+Made.depth) t v m).run P W=.ok (some false) W:=by
 obtain⟨f,h⟩:=Option.isSome_iff_exists.1 h;unfold oe at h;split at h;rotate_left
 ·cases h
 rename_i ti e ht hu;split at h;rotate_left
 ·cases h
 rename_i r hr;split at h;rotate_left
 ·cases h
 rename_i hp;split at h;rotate_left
 ·cases h
 rename_i g hf;cases h;have Ws:r.path.toList=[]:=by have:=Array.isEmpty_iff.1 hp;rw[this]
 obtain⟨n,hn⟩:∃n,P.types.size+Made.depth=n+1:=⟨P.types.size+Made.depth-1,by have hd:=(by decide:Made.depth≠0);omega⟩;rw[hn];unfold nilAhead;simp only[Sem.run_bind,run_typeInfo W ht,Result.andThen_ok,hr,Ws,followBlind,Sem.run_pure,hf]
def Pa(x:Operand){ρ:Operand->Value}(hx:ρ x=v)(h:ax w a v)(o:Oper)(ho:o.op=.nilCheck x):(qX P a).1->∃v',(execOp ρ o).run P w.toWorld=.ok (.value v') w.toWorld/\ax w (qX P a).2 v':=by
 intro hq;unfold qX at*;split at hq<;>try exact hq.elim
 ·cases h with
  |mv _ _ u h=>
   cases h with
   |iG _ _ u h=> refine⟨_,?_,.mv _ _ _ (.iG _ _ _ h)⟩;simp[execOp,ho,hx,RY hq]
 ·cases h with|ip _ ad vs hb hH D' hr=>exact⟨.pointer (some ad),by simp[execOp,ho,hx],.ip _ ad vs hb hH D' hr⟩
 ·cases h with|pt _ _ _ _ b t s hn=>exact⟨_,by simp[execOp,ho,hx],.pt _ _ _ _ b t s hn⟩
 all_goals(have:=dc h;subst this;exact⟨_,by simp[execOp,ho,hx];try rfl,.raw _⟩)
def zH(h:tu P t=true):∃e,P.underlying t=some (.pointer e):=by unfold tu at h;split at h<;>simp_all
def Te(h:wH P t=true):P.underlying t=some .bool:=by unfold wH at h;split at h<;>simp_all
def yY(h:tv P t=true):P.underlying t=some .string:=by unfold tv at h;split at h<;>simp_all
def pm(h:gW P t=true):∃e,P.underlying t=some (.slice e):=by unfold gW at h;split at h<;>simp_all
def qR{x y:Value}{r:Bool}(h:∀d,(Op.equalIn (d+1) t x y).run P w.toWorld=.ok r w.toWorld):(Op.equal t x y).run P w.toWorld=.ok r w.toWorld:=h 9999
def rm{ne:Bool}{x y:Operand}{a b:Value}{r:Bool}(hg:∀op,eqGuard op t x y a b=pure ())(h1:binOp .eql t a b=(do pure (.bool (<-Op.equal t a b))))(h2:binOp .neq t a b=(do pure (.bool (!(<-Op.equal t a b)))))
  (he:(Op.equal t a b).run P w.toWorld=.ok r w.toWorld):∃v,(do eqGuard (if ne then .neq else .eql) t x y a b;binOp (if ne then .neq else .eql) t a b:Sem Value).run P w.toWorld=.ok v w.toWorld/\ax w (.raw (.bool (ne ^^ r))) v:=by
 cases ne
 ·simp only[Bool.false_eq_true,if_false,hg,h1,Sem.run_bind,he,Sem.run_pure,Result.andThen_ok];exact⟨_,rfl,by simpa using ax.raw _⟩
 ·simp only[if_true,hg,h2,Sem.run_bind,he,Sem.run_pure,Result.andThen_ok];exact⟨_,rfl,by simpa using ax.raw _⟩
def GB(ne:Bool)(t:TypeId){b:AV}(x y:Operand)(ha:ax w a va)(hb:ax w b vb) :
  kg P w (do eqGuard (if ne then .neq else .eql) t x y va vb;binOp (if ne then .neq else .eql) t va vb) (wR P ne t a b):=by
 intro hq;unfold wR at*;split at hq<;>try exact hq.elim
 ·have:=dc ha;have:=dc hb;subst_vars
  have ht:=Te hq;exact rm (fun op=>eqGuard_at_bool _ _ _ _ _ _) rfl rfl (qR (fun d=>by simp[Op.equalIn,run_underlying ht]))
 ·have:=dc ha;have:=dc hb;subst_vars
  obtain⟨e,ht⟩:=zH hq;exact rm (fun op=>eqGuard_at_pointer _ _ _ _ _ _) rfl rfl (qR (fun d=>by simp[Op.equalIn,run_underlying ht]))
 ·have:=dc ha;have:=dc hb;subst_vars
  obtain⟨e,ht⟩:=zH hq;rename_i pa;have:=rm (P:=P) (w:=w) (ne:=ne) (t:=t) (x:=x) (y:=y) (a:=.pointer (some pa)) (b:=.pointer none) (r:=false) (fun op=>eqGuard_at_pointer _ _ _ _ _ _) rfl rfl (qR (fun d=>by simp[Op.equalIn,run_underlying ht]));simpa using this
 ·have:=dc hb;subst_vars
  obtain⟨e,ht⟩:=zH hq;cases ha with|ip cs ad vs _ _ _ _=>
  have:=rm (P:=P) (w:=w) (ne:=ne) (t:=t) (x:=x) (y:=y) (a:=.pointer (some ad)) (b:=.pointer none) (r:=false) (fun op=>eqGuard_at_pointer _ _ _ _ _ _) rfl rfl (qR (fun d=>by simp[Op.equalIn,run_underlying ht]));simpa using this
 ·have:=dc hb;subst_vars
  obtain⟨e,ht⟩:=zH hq;rename_i i m k j;cases ha with|pt _ _ _ _ bb tt ss _=>
  have:=rm (P:=P) (w:=w) (ne:=ne) (t:=t) (x:=x) (y:=y) (a:=.pointer (some ⟨bb,k*ss+j,none⟩)) (b:=.pointer none) (r:=false) (fun op=>eqGuard_at_pointer _ _ _ _ _ _) rfl rfl (qR (fun d=>by simp[Op.equalIn,run_underlying ht]));simpa using this
 ·have:=dc ha;have:=dc hb;subst_vars
  obtain⟨e,ht⟩:=pm hq;exact rm (fun op=>eqGuard_at_slice _ _ _ _ _ _ _ _) rfl rfl (qR (fun d=>by simp[Op.equalIn,run_underlying ht]))
 ·have:=dc ha;have:=dc hb;subst_vars
  obtain⟨e,ht⟩:=pm hq;rename_i pa n c m d;have:=rm (P:=P) (w:=w) (ne:=ne) (t:=t) (x:=x) (y:=y) (a:=.slice (some pa) n c) (b:=.slice none m d) (r:=false) (fun op=>eqGuard_at_slice _ _ _ _ _ _ _ _) rfl rfl (qR (fun d=>by simp[Op.equalIn,run_underlying ht]));simpa using this
 ·have:=dc hb;subst_vars
  obtain⟨hq,UK⟩:=hq;obtain⟨e,ht⟩:=pm hq;rename_i css _ m d;cases ha with
  |gu=>exact(UK rfl).elim
  |sl _ _ _ a c vs _ _ _ _ _ _ _ _=> have:=rm (P:=P) (w:=w) (ne:=ne) (t:=t) (x:=x) (y:=y) (a:=.slice (some a) css.length c) (b:=.slice none m d) (r:=false) (fun op=>eqGuard_at_slice _ _ _ _ _ _ _ _) rfl rfl (qR (fun d=>by simp[Op.equalIn,run_underlying ht]));simpa using this
 ·split at hq
  ·rename_i ks hks;exact SZ hks hq.1 hq.2.1 hq.2.2 ha hb
  ·exact hq.elim
def GC(op:BinOp)(t:TypeId){b:AV}(x y:Operand)(ha:ax w a va)(hb:ax w b vb) :
  kg P w (do eqGuard op t x y va vb;binOp op t va vb) (fC P op t a b):=by
 unfold fC;split
 ·have:=dc ha;have:=dc hb;subst_vars;exact Mc op t _ _ _ _ x y
 ·have:=dc ha;have:=dc hb;subst_vars;exact NI op t _ _ x y
 ·split
  ·exact GB false t x y ha hb
  ·exact GB true t x y ha hb
  ·exact He
def RC(op:UnOp)(h:ax w a v):kg P w (Op.unary op v) (sV op a):=by
 intro hq;unfold sV at*;split at hq<;>try exact hq.elim
 ·have:=dc h;subst this;exact⟨_,by simp[Op.unary],.raw _⟩
 ·have:=dc h;subst this;exact⟨_,by simp[Op.unary,Op.intArith],.raw _⟩
def R4(t:TypeId)(h:ax w a v)(hw:aJ w H):kg P w (Instr.loadAt t v) (oY P H t a):=by
 intro hq;unfold oY at*;split at hq<;>try exact hq.elim
 ·rename_i c cs k e1 e2 e3;exact Gm h hw e1 hq.1 e2 e3 hq.2.1 hq.2.2
 ·rename_i c cs k e1 e2 e3;have:=Gm (P:=P) h hw e1 hq.1 e2 e3 hq.2.1 hq.2.2;simpa[uk]using this
def Eg{f off:Nat}(h:cF P t f=some off):∃fs fd k,P.underlying t=some (.struct fs)/\fs[f]?=some fd/\cZ P fd.type=some (k+1)/\fd.offset=off:=by
 unfold cF at h;split at h
 ·rename_i fs hu;split at h
  ·rename_i fd hf;split at h
   ·rename_i k hk;exact⟨fs,fd,k,hu,hf,hk,by simpa using h⟩
   ·cases h
  ·cases h
 ·cases h
def MN(t:TypeId)(f:Nat)(h:ax w a v):kg P w (Instr.fieldAt t v f) (sZ P t a f):=by
 intro hq;unfold sZ at*;split at hq<;>try exact hq.elim
 ·rename_i cs off e;obtain⟨fs,fd,k,hu,hf,hk,rfl⟩:=Eg e;cases h with|ip _ ad vs hb hH D' hr=>
  refine⟨.pointer (some (ad.add fd.offset)),?_,.ip _ _ (fun j=>vs (fd.offset+j)) (by rw[px];exact hb) (by rw[px];exact hH) (fun j hj=>?_) (fun j u hu=>?_)⟩
  ·simp[Instr.fieldAt,run_underlying hu,hf,Instr.sureAddr,fieldPlace,lC hk]
  ·rw[wD];exact D' _ (by simp at hj;omega)
  ·rw[List.getElem?_drop]at hu;exact hr _ _ hu
 ·rename_i i m q j off e;obtain⟨fs,fd,k,hu,hf,hk,rfl⟩:=Eg e;cases h with|pt _ _ _ _ b t s hn=>
  refine⟨.pointer (some ⟨b,q*s+j+fd.offset,none⟩),?_,?_⟩
  ·simp[Instr.fieldAt,run_underlying hu,hf,Instr.sureAddr,fieldPlace,lC hk,jf]
  ·rw[Nat.add_assoc];exact .pt i m q (j+fd.offset) b t s hn
def O1{ft:TypeId}{f off:Nat}(h:vX P t f=some (ft,off)):∃fs fd,P.underlying t=some (.struct fs)/\fs[f]?=some fd/\fd.type=ft/\fd.offset=off:=by
 unfold vX at h;split at h
 ·rename_i fs hu;simp only[Option.map_eq_some_iff,Prod.mk.injEq]at h;obtain⟨fd,hf,h1,h2⟩:=h;exact⟨fs,fd,hu,hf,h1,h2⟩
 ·cases h
def SW(t:TypeId){cs:List AV}{vs:Array Value}(hl:cs.length=vs.size)(hr:∀(i:Nat) a v,cs[i]?=some a->vs[i]?=some v->ax w a v)(off:Nat):kg P w (part t vs off) (xZ P t cs off):=by
 intro hq;unfold xZ at*;split at hq<;>try exact hq.elim
 ·rename_i k e1 e2;simp only at hq;refine⟨.agg (vs.extract off (off+k)),by simp[part,xG e1,lC e2],.agg _ _ jF fun i a v ha hv=>?_⟩;rw[List.getElem?_take]at ha;split at ha
  ·rw[List.getElem?_drop]at ha;refine hr _ a v ha ?_;rw[Array.getElem?_extract]at hv;split at hv<;>simp_all
  ·cases ha
 ·rename_i k e1 e2;simp only at hq;have h1:vs[off]?=some (vs[off]' jB):=Array.getElem?_eq_getElem jB;refine⟨vs[off]' jB,by simp[part,xG e1,h1],hr off _ _ ?_ h1⟩;simp[List.getElem?_eq_getElem hq]
def Nx(t:TypeId)(f:Nat)(h:ax w a v):kg P w (Instr.field t v f) (uT P t a f):=by
 unfold uT;split
 ·rename_i cs ft off e;obtain⟨fs,fd,hu,hf,rfl,rfl⟩:=O1 e;cases h with|agg _ vs hl hr=> intro hq;obtain⟨v,h1,h2⟩:=SW (P:=P) fd.type hl hr fd.offset hq;exact⟨v,by simpa[Instr.field,run_underlying hu,hf,asAgg]using h1,h2⟩
 ·exact He
def oT{k:Nat}(h:iA P t=some k):∃e,P.underlying t=some (.slice e)/\cZ P e=some k:=by
 unfold iA ik at h;split at h
 ·rename_i e hu;exact⟨e,hu,by simpa using h⟩
 ·cases h
def FI{n k:Nat}(h:yP P t=some (n,k)):∃e,P.underlying t=some (.array n e)/\cZ P e=some k:=by
 unfold yP at h;split at h
 ·rename_i len e hu;simp only[Option.map_eq_some_iff,Prod.mk.injEq]at h;obtain⟨s,h1,rfl,rfl⟩:=h;exact⟨e,hu,h1⟩
 ·cases h
def MD(t:TypeId){i:AV}{vi:Value}(ha:ax w a va)(hi:ax w i vi):kg P w (Instr.indexAt t va vi) (sJ P t a i):=by
 intro hq;unfold sJ at*;split at hq<;>try exact hq.elim
 ·rename_i x sz css d k j;have:=dc hi;subst this;obtain⟨e,hu,hs⟩:=oT hq.1;have h0:=hq.2.1;have h1:=hq.2.2;cases ha with
  |gu=>simp at h1;omega
  |sl _ _ _ ad c vs hn hc hx TU hb hH D' hr=>
   have UE:=vk TU (show j.toNat<css.length from jB);have hd:css.getD j.toNat d=css.getD j.toNat []:=by simp[show j.toNat<css.length from jB]
   rw[hd];refine⟨.pointer (some (ad.add (j.toNat*sz))),?_,.ip _ _ (fun m=>vs (j.toNat*sz+m)) (by rw[px];exact hb) (by rw[px];exact hH) (fun m hm=>?_) (fun m u hu=>?_)⟩
   ·simp[Instr.indexAt,asIntOf,run_underlying hu,h0,h1,lC hs]
   ·rw[wD];exact D' _ m jB jB
   ·exact hr _ m u jB hu
 ·rename_i d m sz n k j;have:=dc hi;subst this;obtain⟨e,hu,hs⟩:=oT hq.1;have h0:=hq.2.1;have h1:=hq.2.2;cases ha with
  |iE=>simp at h1;omega
  |rs _ _ _ _ b t c hn hc T3 U'=> refine⟨.pointer (some ⟨b,j.toNat*sz,none⟩),?_,.pt d m j.toNat 0 b t sz hn⟩;simp[Instr.indexAt,asIntOf,run_underlying hu,h0,h1,lC hs,jf]
 ·rename_i d m sz n k j;have:=dc hi;subst this;obtain⟨e,hu,hs⟩:=oT hq.1;have h0:=hq.2.1;have h1:=hq.2.2;cases ha with
  |rc _ _ _ _ b t hn hc T3 U'=> refine⟨.pointer (some ⟨b,j.toNat*sz,none⟩),?_,.pt d m j.toNat 0 b t sz hn⟩;simp[Instr.indexAt,asIntOf,run_underlying hu,h0,h1,lC hs,jf]
 ·rename_i d m sz o n k j;have:=dc hi;subst this;obtain⟨e,hu,hs⟩:=oT hq.1;have h0:=hq.2.1;have h1:=hq.2.2;cases ha with
  |jb=>simp at h1;omega
  |rv _ _ _ _ _ b t c hn T3=> refine⟨.pointer (some ⟨b,(o+j.toNat)*sz,none⟩),?_,.pt d m (o+j.toNat) 0 b t sz hn⟩;simp[Instr.indexAt,asIntOf,run_underlying hu,h0,h1,lC hs,jf,Nat.add_mul]
 ·rename_i d m k j kk i;have:=dc hi;subst this;unfold zt at*;split at hq
  ·rename_i len s e;obtain⟨el,hu,hs⟩:=FI e;cases ha with
   |pt _ _ _ _ b t sz hn=> refine⟨.pointer (some ⟨b,k*sz+(j+i.toNat*s),none⟩),?_,.pt d m k _ b t sz hn⟩;simp[Instr.indexAt,asIntOf,run_underlying hu,hq.1,hq.2,lC hs,jf,Instr.sureAddr,Nat.add_assoc]
  ·exact hq.elim
 ·rename_i cs kk i;have:=dc hi;subst this;unfold zt at*;split at hq
  ·rename_i len s e;obtain⟨el,hu,hs⟩:=FI e;cases ha with
   |ip _ ad vs hb hH D' hr=>
    refine⟨.pointer (some (ad.add (i.toNat*s))),?_,.ip _ _ (fun m=>vs (i.toNat*s+m)) (by rw[px];exact hb) (by rw[px];exact hH) (fun m hm=>?_) (fun m u hu=>?_)⟩
    ·simp[Instr.indexAt,asIntOf,run_underlying hu,hq.1,hq.2,lC hs,Instr.sureAddr]
    ·rw[wD];exact D' _ (by simp at hm;omega)
    ·exact hr _ u (by rwa [List.getElem?_drop]at hu)
  ·exact hq.elim
def P0(t:TypeId){i:AV}{vi:Value}(ha:ax w a va)(hi:ax w i vi):kg P w (Instr.index t va vi) (sk P t a i):=by
 intro hq;unfold sk at*;split at hq<;>try exact hq.elim
 rename_i s k j;have:=dc hi;have:=dc ha;subst_vars
 have ht:=yY hq.1;have h0:=hq.2.1;have h1:j.toNat<s.size:=by have:=hq.2.2;omega
 refine⟨.int .u8 (eG s j),?_,.raw _⟩;have h2:s[j.toNat]?=some s[j.toNat]:=by simp[h1]
 have h3:eG s j=(s[j.toNat].toNat:Int):=by have h4:s.data[j.toNat]?=some s[j.toNat]:=Array.getElem?_eq_getElem h1;simp only[eG,h4,Option.getD_some]
 simp[Instr.index,asIntOf,run_underlying ht,h0,h2,h3]
def J8(h:ax w a v)(i:Nat):kg P w (Instr.extract v i) (uM a i):=by
 intro hq;unfold uM at*;split at hq<;>try exact hq.elim
 rename_i cs;cases h with|aQ _ vs hl hr=>
 simp only at hq;have h1:vs[i]?=some (vs[i]' jB):=Array.getElem?_eq_getElem jB;refine⟨vs[i]' jB,by simp[Instr.extract,h1],hr i _ _ ?_ h1⟩;simp[List.getElem?_eq_getElem hq]
def Sc(fn:Fn){a b:List AV}{va vb:List Value}(ha:bY w a va)(hb:bY w b vb):kg P w (Instr.makeFunc fn va.toArray vb.toArray) (vC fn a b):=by
 intro hq;unfold vC at*;split at hq<;>try exact hq.elim
 ·rename_i f;have:va=[]:=by have:=ha.1;simpa using this.symm
  subst this;exact⟨.func (.func f) #[] vb.toArray,by simp[Instr.makeFunc],.dP f _ _ (by rw[hb.1];simp) (fun i a v h1 h2=>hb.2 i a v h1 (by simpa using h2))⟩
 ·rename_i f x l;have hq:b=[]:=hq;subst hq;have:vb=[]:=by have:=hb.1;simpa using this.symm
  subst this;exact⟨.func (.func f) va.toArray #[],by simp[Instr.makeFunc],.bd f _ _ (by rw[ha.1];simp) (fun i a v h1 h2=>ha.2 i a v h1 (by simpa using h2))⟩
 ·rename_i m x;have hq:b=[]:=hq;subst hq;have:vb=[]:=by have:=hb.1;simpa using this.symm
  subst this;obtain⟨u,rfl⟩:∃u,va=[u]:=by
   have:=ha.1;match va,this with
   |[u],_=>exact⟨u,rfl⟩
  exact⟨.func (.method m) #[u] #[],by simp[Instr.makeFunc],.mv m _ _ (ha.2 0 _ _ rfl rfl)⟩
def Tl(t:TypeId)(h:ax w a v):kg P w (Instr.makeInterface t v) (vR P t a):=by
 intro hq;unfold vR at*;split at hq<;>try exact hq.elim
 ·rename_i u d e1 e2;have:=dc h;subst this;refine⟨.iface t v,?_,.raw _⟩;simp only[Instr.makeInterface,Sem.run_bind,run_underlying e2,Result.andThen_ok];cases d<;>first|rfl|(simp[zJ,e2]at e1)
 ·rename_i d _ e1 hu;refine⟨.iface t v,?_,.iG t _ v h⟩;simp only[Instr.makeInterface,Sem.run_bind,run_underlying hu,Result.andThen_ok];cases d<;>first|rfl|(simp[zJ,hu]at e1)
def L8(h:AK P t=true):∃k e,P.underlying t=some (.map k e):=by
 unfold AK at h;split at h
 ·exact⟨_,_,by assumption⟩
 ·cases h
theorem Dt:∀(n:Nat) (ks vs:List Value),(iO n ks vs).length=min ks.length vs.length
 |n,[],vs=>by simp[iO]
 |n,k::ks,[]=>by simp[iO]
 |n,k::ks,v::vs=>by simp[iO,Dt (n+1) ks vs]
def Lh(ty t:TypeId)(ts:List TypeId)(vs:List Value)(hw:aJ w H)(h:ax w a v):kg P w (Builtin.len_ (t::ts).toArray ty (v::vs).toArray) (tU P H t a):=by
 intro hq;unfold tU at*;split at hq<;>try exact hq.elim
 ·split at hq<;>try exact hq.elim
  rename_i hm;rw[if_pos hm];split at hq<;>try exact hq.elim
  rename_i ks vs hi;obtain⟨k,e,ht⟩:=L8 hq;cases h with
  |mr _ b t' s hn=>
   obtain⟨hok,z,hz,T2⟩:=hw.rows _ _ hi;have:z=.at b t' s:=by have hz:w.nm _ 0=some z:=hz;rw[hn]at hz;cases hz;rfl
   subst this;obtain⟨_,cur,hh,Ul,_⟩:=T2;have hh:w.heap[b]?=some (.map (iO 0 ks cur.toList).toArray ks.length):=hh;have Ul:cur.size=vs.length:=Ul;have hok:ks.length=vs.length:=hok;refine⟨_,?_,.raw _⟩;simp[Builtin.len_,run_underlying ht,MapKept.run_getObj_map hh,goInt,Dt,hok,Ul]
 ·obtain⟨e,ht⟩:=pm hq;cases h<;>exact⟨_,by simp[Builtin.len_,run_underlying ht,goInt];try rfl,.raw _⟩
 ·obtain⟨e,ht⟩:=pm hq;cases h<;>exact⟨_,by simp[Builtin.len_,run_underlying ht,goInt];try rfl,.raw _⟩
 ·obtain⟨e,ht⟩:=pm hq;cases h<;>exact⟨_,by simp[Builtin.len_,run_underlying ht,goInt];try rfl,.raw _⟩
 ·obtain⟨e,ht⟩:=pm hq;cases h<;>exact⟨_,by simp[Builtin.len_,run_underlying ht,goInt];try rfl,.raw _⟩
 ·obtain⟨e,ht⟩:=pm hq;have:=dc h;subst this;exact⟨_,by simp[Builtin.len_,run_underlying ht,goInt],.raw _⟩
 ·have ht:=yY hq;have:=dc h;subst this;exact⟨_,by simp[Builtin.len_,run_underlying ht,goInt],.raw _⟩
def KA(ty t:TypeId)(ts:List TypeId)(vs:List Value)(h:ax w a v):kg P w (Builtin.cap_ (t::ts).toArray ty (v::vs).toArray) (zh P t a):=by
 intro hq;unfold zh at*;split at hq<;>try exact hq.elim
 ·obtain⟨e,ht⟩:=pm hq;cases h with
  |gu _ _ _ c hx=>have:=hx rfl;subst this;exact⟨_,by simp[Builtin.cap_,run_underlying ht,goInt],.raw _⟩
  |sl _ _ _ _ c _ _ _ hx=>have:=(hx rfl).1;subst this;exact⟨_,by simp[Builtin.cap_,run_underlying ht,goInt],.raw _⟩
 ·obtain⟨e,ht⟩:=pm hq;cases h;exact⟨_,by simp[Builtin.cap_,run_underlying ht,goInt],.raw _⟩
 ·obtain⟨e,ht⟩:=pm hq;have:=dc h;subst this;exact⟨_,by simp[Builtin.cap_,run_underlying ht,goInt],.raw _⟩
end
end Go.Gd
namespace Go.Gd
open Go
abbrev TA:=List AV->Hp->Prop
abbrev TB:=AV->Hp->Prop
abbrev TC:=List (List AV)
abbrev TD:=List (Nat×Row)
abbrev TE:=List AV
abbrev TF:=List (List Int)
abbrev TG:=List Int
abbrev TH:=List Nat
abbrev TI:=ByteArray
abbrev TJ:=TypeId
abbrev TK:=Operand->AV
abbrev TL:=Array Value
abbrev TM:=List Value
abbrev TN:=Nat->Bool
abbrev TO:=Program
abbrev TP:=Nat->Row
abbrev TQ:=Nat×Row
end Go.Gd

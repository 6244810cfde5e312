/- Lemmas. No conditions. -/
import Derived.Tactics
import Derived.Lib.ItoaNum
import Derived.Below
import Derived.Laws.AppendOwn
import Derived.Laws.Cells
import Derived.Deep.LoopGhost
import Derived.Orders
import Derived.Scope
import Derived.Laws.Slices
import Derived.WalkKit
import Derived.Laws.StructEq
set_option linter.all false
namespace Go.Gd
open Go
variable{p:Prop}
def jB(h:p:=by first|(omega)|fail):p:=h
def jC(h:p:=by first|(decide)|fail):p:=h
def jD(h:p:=by first|(simp only[go_sem])|fail):p:=h
def jE(h:p:=by first|(simp)|fail):p:=h
def jF(h:p:=by first|(simp;omega)|fail):p:=h
def jG(h:p:=by first|(kernel_rfl)|fail):p:=h
def jH(h:p:=by first|(intro;omega)|fail):p:=h
def jJ(h:p:=by first|((try simp only);omega)|fail):p:=h
def jz(h:p:=by first|contradiction|omega|fail):p:=h
def jl{n:Nat}:n<=n:=Nat.le_refl n
def vN(h:p:=by first|(simp only[go_sem,↓reduceIte,Int.reduceEq,Int.reduceLE,Int.reduceLT,Int.reduceNe,Int.reduceToNat,Nat.reduceMul,Nat.reduceAdd,Nat.reduceLeDiff,Nat.reduceSub,Nat.reduceEqDiff,Nat.reduceBEq,List.nodup_cons,List.nodup_nil,List.mem_cons,List.not_mem_nil,List.mem_nil_iff];done)|fail):p:=h
def uo(h:p:=by first|(simp only[go_sem,↓reduceIte,Int.reduceEq,Int.reduceLE,Int.reduceLT,Int.reduceNe,Int.reduceToNat,Nat.reduceMul,Nat.reduceAdd,Nat.reduceLeDiff,Nat.reduceSub,Nat.reduceEqDiff,Nat.reduceBEq,List.nodup_cons,List.nodup_nil,List.mem_cons,List.not_mem_nil,List.mem_nil_iff];rfl)|fail):p:=h
def jI:True:=⟨⟩
def jN {α:Sort _} {c:Prop} [Decidable c] {a b:α} (h:¬c:=by omega):(if c then a else b)=b:=if_neg h
def jP {α:Sort _} {c:Prop} [Decidable c] {a b:α} (h:c:=by omega):(if c then a else b)=a:=if_pos h
def jA {a b:Prop}(h:a)(k:b):a∧b:=⟨h,k⟩
def CT:List (Nat×List Value):=[(0,Lib.pow10Tab.map (Value.int .u64))]
def ka:List Nat:=[238,245]
inductive AV where
 |raw (v:Value)
 |any
 |agg (cs:List AV)
 |aQ (vs:List AV)
 |sl (x:Bool) (sz:Nat) (css:List (List AV)) (d:List AV)
 |ip (cs:List AV)
 |gd (p:Bool) (v:AV)
 |dW (f:FuncId) (cs:List AV)
 |pt (i m k j:Nat)
 |rs (i m sz n:Nat)
 |rc (i m sz n:Nat)
 |rv (i m sz o n:Nat)
 |mr (i:Nat)
 |bd (f:FuncId) (fs:List AV)
 |iQ (t:TypeId) (v:AV)
 |mv (m:String) (v:AV)
instance:Inhabited AV:=⟨.any⟩
mutual
def AV.all(q:Nat->Bool):AV->Bool
 |.agg cs=>aZ q cs
 |.aQ cs=>aZ q cs
 |.dW _ cs=>aZ q cs
 |.bd _ fs=>aZ q fs
 |.iQ _ v=>v.all q
 |.mv _ v=>v.all q
 |.gd _ v=>v.all q
 |.pt i _ _ _=>q i
 |.rs i _ _ _=>q i
 |.rc i _ _ _=>q i
 |.rv i _ _ _ _=>q i
 |.mr i=>q i
 |.raw _=>true
 |.any=>true
 |.sl _ _ _ _=>true
 |.ip _=>true
def aZ(q:Nat->Bool):List AV->Bool
 |[]=>true
 |a::l=>a.all q && aZ q l
end
theorem lz{q:Nat->Bool}:∀{l:List AV},aZ q l=true->∀{i:Nat} {a:AV},l[i]?=some a->a.all q=true
 |[],_,i,a,h=>by simp at h
 |x::l,hl,i,a,h=>by
  simp only[aZ,Bool.and_eq_true]at hl;cases i with
  |zero=>simp at h;subst h;exact hl.1
  |succ i=>exact lz hl.2 (by simpa using h)
mutual
theorem ql{q p:Nat->Bool}(hq:∀i,q i=true->p i=true):∀a:AV,a.all q=true->a.all p=true
 |.agg cs,h=>by simp only[AV.all]at h ⊢;exact fX hq cs h
 |.aQ cs,h=>by simp only[AV.all]at h ⊢;exact fX hq cs h
 |.dW _ cs,h=>by simp only[AV.all]at h ⊢;exact fX hq cs h
 |.bd _ fs,h=>by simp only[AV.all]at h ⊢;exact fX hq fs h
 |.iQ _ v,h=>by simp only[AV.all]at h ⊢;exact ql hq v h
 |.mv _ v,h=>by simp only[AV.all]at h ⊢;exact ql hq v h
 |.gd _ v,h=>by simp only[AV.all]at h ⊢;exact ql hq v h
 |.pt i _ _ _,h=>hq i (by simpa only[AV.all]using h)
 |.rs i _ _ _,h=>hq i (by simpa only[AV.all]using h)
 |.rc i _ _ _,h=>hq i (by simpa only[AV.all]using h)
 |.rv i _ _ _ _,h=>hq i (by simpa only[AV.all]using h)
 |.mr i,h=>hq i (by simpa only[AV.all]using h)
 |.raw _,_=>by simp only[AV.all]
 |.any,_=>by simp only[AV.all]
 |.sl _ _ _ _,_=>by simp only[AV.all]
 |.ip _,_=>by simp only[AV.all]
theorem fX{q p:Nat->Bool}(hq:∀i,q i=true->p i=true):∀l:List AV,aZ q l=true->aZ p l=true
 |[],_=>rfl
 |a::l,h=>by simp only[aZ,Bool.and_eq_true]at h ⊢;exact⟨ql hq a h.1,fX hq l h.2⟩
end
mutual
theorem nG:∀a:AV,a.all (fun _=>true)=true
 |.agg cs=>by simp only[AV.all];exact vo cs
 |.aQ cs=>by simp only[AV.all];exact vo cs
 |.dW _ cs=>by simp only[AV.all];exact vo cs
 |.bd _ fs=>by simp only[AV.all];exact vo fs
 |.iQ _ v=>by simp only[AV.all];exact nG v
 |.mv _ v=>by simp only[AV.all];exact nG v
 |.gd _ v=>by simp only[AV.all];exact nG v
 |.pt i _ _ _=>by simp only[AV.all]
 |.rs i _ _ _=>by simp only[AV.all]
 |.rc i _ _ _=>by simp only[AV.all]
 |.rv i _ _ _ _=>by simp only[AV.all]
 |.mr i=>by simp only[AV.all]
 |.raw _=>by simp only[AV.all]
 |.any=>by simp only[AV.all]
 |.sl _ _ _ _=>by simp only[AV.all]
 |.ip _=>by simp only[AV.all]
theorem vo:∀l:List AV,aZ (fun _=>true) l=true
 |[]=>rfl
 |a::l=>by simp only[aZ,Bool.and_eq_true];exact⟨nG a,vo l⟩
end
inductive Row where
 |var (t:TypeId) (cs:List AV)
 |aG (e:TypeId) (sz:Nat) (css:List (List AV))
 |mp (ks:List Value) (vs:List AV)
def Row.fW:Row->Nat
 |.var _ _=>0
 |.aG _ _ css=>css.length
 |.mp _ _=>0
def Row.elem:Row->TypeId
 |.var t _=>t
 |.aG e _ _=>e
 |.mp _ _=>0
def Row.bB:Row->Nat
 |.var _ _=>0
 |.aG _ sz _=>sz
 |.mp _ _=>0
def Row.cells:Row->List AV
 |.var _ cs=>cs
 |.aG _ _ css=>css.flatten
 |.mp _ vs=>vs
def Row.ok:Row->Prop
 |.var _ _=>True
 |.aG _ sz css=>0<sz/\∀cs∈css,cs.length=sz
 |.mp ks vs=>ks.length=vs.length
def iV:Nat->List Value->List Value->List MapEntry
 |n,k::ks,v::vs=>⟨k,v,n⟩::iV (n+1) ks vs
 |_,_,_=>[]
def Row.obj(r:Row)(cur:Array Value):Obj:=match r with
 |.mp ks _=>.map (iV 0 ks cur.toList).toArray ks.length
 |.var t _=>.cells cur t (0,0)
 |.aG e _ _=>.cells cur e (0,0)
def Row.fit(r:Row)(n t:Nat):Prop:=match r with
 |.mp _ vs=>n=vs.length
 |.var ty cs=>n=t/\(Row.var ty cs).cells.length<=t
 |.aG e sz css=>n=t/\(Row.aG e sz css).cells.length<=t
def Row.zd:Row->Bool
 |.mp _ _=>false
 |_=>true
variable{r:Row}
def Row.sL(h:r.zd=true)(cur:Array Value):r.obj cur=.cells cur r.elem (0,0):=by
 cases r with
 |var t cs=>rfl
 |aG e sz css=>rfl
 |mp ks vs=>cases h
def Row.sU(h:r.zd=true)(n t:Nat):r.fit n t=(n=t/\r.cells.length<=t):=by
 cases r with
 |var t cs=>rfl
 |aG e sz css=>rfl
 |mp ks vs=>cases h
structure Hp where
 B:List Nat
 l:List (Nat×Row)
def aC:List (Nat×Row)->Nat->Option Row
 |[],_=>none
 |(j,r)::l,i=>if i=j then some r else aC l i
def bg:List (Nat×Row)->Nat->Row->List (Nat×Row)
 |[],i,r=>[(i,r)]
 |(j,s)::l,i,r=>if i=j then(i,r)::l else(j,s)::bg l i r
def p6:List (Nat×Row)->Nat->List (Nat×Row)
 |[],_=>[]
 |(j,s)::l,i=>if i=j then p6 l i else(j,s)::p6 l i
def Hp.get(H:Hp)(i:Nat):Option Row:=aC H.l i
def Hp.put(H:Hp)(i:Nat)(r:Row):Hp:=⟨H.B,bg H.l i r⟩
theorem bS:∀(l:List (Nat×Row)) (i j:Nat) (r:Row),aC (bg l i r) j=if j=i then some r else aC l j
 |[],i,j,r=>by simp[bg,aC]
 |(k,s)::l,i,j,r=>by
  unfold bg;split
  ·rename_i h;subst h;simp only[aC];split<;>rfl
  ·rename_i h;simp only[aC];split
   ·rename_i h2;subst h2;rw[if_neg (fun e=>h e.symm)]
   ·exact bS l i j r
theorem Bm:∀(l:List (Nat×Row)) (i j:Nat),aC (p6 l i) j=if j=i then none else aC l j
 |[],i,j=>by simp[p6,aC]
 |(k,s)::l,i,j=>by
  unfold p6;split
  ·rename_i h;subst h;rw[Bm l i j];simp only[aC];split<;>rfl
  ·rename_i h;simp only[aC];split
   ·rename_i h2;subst h2;rw[if_neg (fun e=>h e.symm)]
   ·exact Bm l i j
def Hp.bk(H:Hp)(i j:Nat)(r:Row):(H.put i r).get j=if j=i then some r else H.get j:=bS _ _ _ _
inductive Rz where
 |nil
 |at(b t s:Nat)
structure NW extends World where
 O:Nat->Prop
 nm:Nat->Nat->Option Rz
instance:Coe NW World:=⟨NW.toWorld⟩
@[reducible] def NW.bare(w:NW):NW:={ w with nm:=fun _ _=>none }
def LF(w:World)(b:Nat):Prop:=∃cur el,w.heap[b]?=some (.cells cur el (0,0))
inductive ax:NW->AV->Value->Prop
 |raw {w:NW} (v:Value):ax w (.raw v) v
 |any {w:NW} (v:Value):ax w .any v
 |agg {w:NW} (cs:List AV) (vs:Array Value) (hl:cs.length=vs.size) (h:∀(i:Nat) a v,cs[i]?=some a->vs[i]?=some v->ax w a v):ax w (.agg cs) (.agg vs)
 |aQ {w:NW} (cs:List AV) (vs:Array Value) (hl:cs.length=vs.size) (h:∀(i:Nat) a v,cs[i]?=some a->vs[i]?=some v->ax w a v):ax w (.aQ cs) (.tuple vs)
 |gz {w:NW} {d:List AV} (x:Bool) (sz:Nat) (A:Option Addr) (c:Nat) (hx:x=true->c=0):ax w (.sl x sz [] d) (.slice A 0 c)
 |sl {w:NW} {d:List AV} (x:Bool) (sz:Nat) (css:List (List AV)) (a:Addr) (c:Nat) (vs:Nat->Value) (hn:0<css.length) (hc:css.length<=c) (hx:x=true->c=css.length/\LF w a.block) (U':∀cs∈css,cs.length=sz)
   (hb:a.block<w.heap.size) (hH:¬w.O a.block) (D':∀i j,i<css.length->j<sz->w.cell? (a.add (i*sz+j))=some (vs (i*sz+j)))
   (h:∀i (j:Nat) u,i<css.length->(css.getD i [])[j]?=some u->ax w.bare u (vs (i*sz+j))):ax w (.sl x sz css d) (.slice (some a) css.length c)
 |ip {w:NW} (cs:List AV) (a:Addr) (vs:Nat->Value) (hb:a.block<w.heap.size) (hH:¬w.O a.block) (D':∀j,j<cs.length->w.cell? (a.add j)=some (vs j))
   (h:∀(j:Nat) u,cs[j]?=some u->ax w.bare u (vs j)):ax w (.ip cs) (.pointer (some a))
 |gd {w:NW} (p:Bool) (a:AV) (v:Value) (h:p=true->ax w a v) (hu:p=false->v=undef):ax w (.gd p a) v
 |dW {w:NW} (f:FuncId) (cs:List AV) (vs:Array Value) (hl:cs.length=vs.size) (h:∀(i:Nat) a v,cs[i]?=some a->vs[i]?=some v->ax w a v):ax w (.dW f cs) (.func (.func f) #[] vs)
 |pt {w:NW} (i m k j b t s:Nat) (h:w.nm i m=some (.at b t s)):ax w (.pt i m k j) (.pointer (some ⟨b,k*s+j,none⟩))
 |iN {w:NW} (i m sz:Nat) (A:Option Addr) (h:w.nm i m=some .nil):ax w (.rs i m sz 0) (.slice A 0 0)
 |rs {w:NW} (i m sz n b t c:Nat) (h:w.nm i m=some (.at b t sz)) (hc:c*sz=t) (hn:n<=c) (hs:0<sz):ax w (.rs i m sz n) (.slice (some ⟨b,0,none⟩) n c)
 |rc {w:NW} (i m sz n b t:Nat) (h:w.nm i m=some (.at b t sz)) (hc:m*sz=t) (hn:n<=m) (hs:0<sz):ax w (.rc i m sz n) (.slice (some ⟨b,0,none⟩) n m)
 |jx {w:NW} (i m sz o c:Nat) (A:Option Addr):ax w (.rv i m sz o 0) (.slice A 0 c)
 |rv {w:NW} (i m sz o n b t c:Nat) (h:w.nm i m=some (.at b t sz)) (hn:n<=c):ax w (.rv i m sz o n) (.slice (some ⟨b,o*sz,none⟩) n c)
 |mr {w:NW} (i b t s:Nat) (h:w.nm i 0=some (.at b t s)):ax w (.mr i) (.map (some b))
 |bd {w:NW} (f:FuncId) (fs:List AV) (vs:Array Value) (hl:fs.length=vs.size) (h:∀(i:Nat) a v,fs[i]?=some a->vs[i]?=some v->ax w a v):ax w (.bd f fs) (.func (.func f) vs #[])
 |iQ {w:NW} (t:TypeId) (a:AV) (v:Value) (h:ax w a v):ax w (.iQ t a) (.iface t v)
 |mv {w:NW} (m:String) (a:AV) (v:Value) (h:ax w a v):ax w (.mv m a) (.func (.method m) #[v] #[])
def ci(w:NW)(cs:List AV)(vs:List Value):Prop:=cs.length=vs.length/\∀(i:Nat) a v,cs[i]?=some a->vs[i]?=some v->ax w a v
def bs(w:NW)(F:List AV)(tm:Array Value):Prop:=F.length=tm.size/\∀(i:Nat) a v,F[i]?=some a->tm[i]?=some v->ax w a v
def gJ(w:NW)(r:Row):Rz->Prop
 |.nil=>∃e sz,r=.aG e sz []
 |.at b t s=>s=r.bB/\∃cur:Array Value,w.heap[b]?=some (r.obj cur)/\r.fit cur.size t/\∀(i:Nat) a v,r.cells[i]?=some a->cur[i]?=some v->ax w a v
structure Keep(q:Nat->Bool)(w w':NW):Prop where
 size:w.heap.size<=w'.heap.size
 free:∀b,b<w.heap.size->¬w.O b->w'.heap[b]?=w.heap[b]?/\¬w'.O b
 names:∀i m z,q i=true->w.nm i m=some z->w'.nm i m=some z
def j6(w:NW):Prop:=∀g vs,(g,vs)∈CT->(∃cur el fr,w.heap[g]?=some (.cells cur el fr)/\cur.toList=vs)/\¬w.O g
variable{w:NW}
def j6.aY{q:Nat->Bool}{w':NW}(h:j6 w)(k:Keep q w w'):j6 w':=fun g vs hm=>by obtain⟨⟨cur,el,fr,h1,h2⟩,h3⟩:=h g vs hm;have:=k.free g (Array.getElem?_eq_some_iff.1 h1).1 h3;exact⟨⟨cur,el,fr,this.1.trans h1,h2⟩,this.2⟩
structure aJ(w:NW)(H:Hp):Prop where
 cd:j6 w
 rows:∀i r,H.get i=some r->r.ok/\∃z,w.nm i r.fW=some z/\gJ w r z
 di:∀i m z,w.nm i m=some z->∃r,H.get i=some r/\m<=r.fW
 inj:∀i m j n b t s t' s',w.nm i m=some (.at b t s)->w.nm j n=some (.at b t' s')->i=j
 own:∀i m b t s,w.nm i m=some (.at b t s)->w.O b
 fin:∀b,w.O b->b<w.heap.size
structure ExtQ(q:Nat->Bool)(w w':NW):Prop extends Keep q w w' where
 os:w'.os=w.os
 tape:w'.tape=w.tape
 output:w'.output=w.output
 rest:∀b,b<w.heap.size->w.O b->(∀i m t s,w.nm i m≠some (.at b t s))->w'.heap[b]?=w.heap[b]?/\w'.O b/\∀i m t s,w'.nm i m≠some (.at b t s)
abbrev rO:Nat->Bool:=fun _=>true
structure Ext(w:NW)(H:Hp)(w':NW)(H':Hp):Prop extends ExtQ rO w w' where
 base:H'.B=H.B
structure fS(w:NW)(H:Hp)(w':NW)(H':Hp):Prop extends ExtQ (fun i=>H.B.contains i) w w' where
 base:H'.B=H.B
def Keep.refl(q:Nat->Bool)(w:NW):Keep q w w:=⟨Nat.le_refl _,fun _ _ h=>⟨rfl,h⟩,fun _ _ _ _ h=>h⟩
theorem ExtQ.refl(q:Nat->Bool)(w:NW):ExtQ q w w:={ Keep.refl q w with os:=rfl,tape:=rfl,output:=rfl,rest:=fun _ _ h k=>⟨rfl,h,k⟩ }
theorem Ext.refl(w:NW)(H:Hp):Ext w H w H:={ ExtQ.refl _ w with base:=rfl }
theorem fS.refl(w:NW)(H:Hp):fS w H w H:={ ExtQ.refl _ w with base:=rfl }
theorem Keep.trans{q:Nat->Bool}{a b c:NW}(h:Keep q a b)(k:Keep q b c):Keep q a c:=
 ⟨Nat.le_trans h.size k.size,fun n hn hO=>⟨(k.free n (Nat.lt_of_lt_of_le hn h.size) (h.free n hn hO).2).1.trans (h.free n hn hO).1,(k.free n (Nat.lt_of_lt_of_le hn h.size) (h.free n hn hO).2).2⟩,fun i m z hq hz=>k.names i m z hq (h.names i m z hq hz)⟩
theorem ExtQ.trans{q:Nat->Bool}{a b c:NW}(h:ExtQ q a b)(k:ExtQ q b c):ExtQ q a c:={ h.toKeep.trans k.toKeep with
 os:=k.os.trans h.os,tape:=k.tape.trans h.tape,output:=k.output.trans h.output
 rest:=fun n hn hO U8=>by obtain⟨h1,h2,h3⟩:=h.rest n hn hO U8;obtain⟨k1,k2,k3⟩:=k.rest n (Nat.lt_of_lt_of_le hn h.size) h2 h3;exact⟨k1.trans h1,k2,k3⟩ }
def ExtQ.mono{q p:Nat->Bool}{a b:NW}(h:ExtQ q a b)(hp:∀i,p i=true->q i=true):ExtQ p a b:={ h with names:=fun i m z hq hz=>h.names i m z (hp i hq) hz }
theorem Ext.trans{a b c:NW}{H H' VT:Hp}(h:Ext a H b H')(k:Ext b H' c VT):Ext a H c VT:={ h.toExtQ.trans k.toExtQ with base:=k.base.trans h.base }
theorem fS.trans{a b c:NW}{H H' VT:Hp}(h:fS a H b H')(k:fS b H' c VT):fS a H c VT:={ h.toExtQ.trans (k.toExtQ.mono fun i hi=>by rw[h.base];exact hi)with base:=k.base.trans h.base }
variable{H:Hp}
def Ext.pU{a b:NW}{H':Hp}(h:Ext a H b H'):fS a H b H':={ h.toExtQ.mono fun _ _=>rfl with base:=h.base }
def qh(a:Addr)(n:Nat):(a.add n).block=a.block:=by unfold Addr.add;split<;>rfl
def xc(a:Addr)(i j:Nat):(a.add i).add j=a.add (i+j):=by unfold Addr.add;by_cases hi:i=0<;>by_cases hj:j=0<;>simp[hi,hj,Nat.add_assoc]
def DA(a:Addr):a.add 0=a:=rfl
def ju(b o n:Nat):(⟨b,o,none⟩:Addr).add n=⟨b,o+n,none⟩:=by unfold Addr.add;split<;>simp_all
theorem Keep.bare{q:Nat->Bool}{w w':NW}(k:Keep q w w'):Keep rO w.bare w'.bare:=⟨k.size,k.free,fun i m z _ h=>by cases h⟩
def ax.aY{a:AV}{v:Value}(h:ax w a v):∀{q:Nat->Bool} {w':NW},Keep q w w'->a.all q=true->ax w' a v:=by
 induction h with
 |raw v=>intro q w' _ _;exact .raw v
 |any v=>intro q w' _ _;exact .any v
 |agg cs vs hl _ ih=>intro q w' k ha;simp only[AV.all]at ha;exact .agg cs vs hl fun i a v h1 h2=>ih i a v h1 h2 k (lz ha h1)
 |aQ cs vs hl _ ih=>intro q w' k ha;simp only[AV.all]at ha;exact .aQ cs vs hl fun i a v h1 h2=>ih i a v h1 h2 k (lz ha h1)
 |gz x sz A c hx=>intro q w' _ _;exact .gz x sz A c hx
 |@sl w d x sz css a c vs hn hc hx U' hb hH D' _ ih=>
  intro q w' k _;have hk:=k.free _ hb hH;refine .sl x sz css a c vs hn hc (fun h=>⟨(hx h).1,by obtain⟨cur,el,hp⟩:=(hx h).2;exact⟨cur,el,hk.1.trans hp⟩⟩) U' (Nat.lt_of_lt_of_le hb k.size) hk.2 (fun i j hi hj=>?_) fun i j u hi hu=>ih i j u hi hu k.bare (nG u)
  rw[World.cell?_of_block (w:=w.toWorld) (by rw[qh];exact hk.1)];exact D' i j hi hj
 |@ip w cs a vs hb hH D' _ ih=>
  intro q w' k _;have hk:=k.free _ hb hH;refine .ip cs a vs (Nat.lt_of_lt_of_le hb k.size) hk.2 (fun j hj=>?_) fun j u hu=>ih j u hu k.bare (nG u)
  rw[World.cell?_of_block (w:=w.toWorld) (by rw[qh];exact hk.1)];exact D' j hj
 |gd p a v _ hu ih=>intro q w' k ha;exact .gd p a v (fun hp=>ih hp k (by simpa only[AV.all]using ha)) hu
 |dW f cs vs hl _ ih=>intro q w' k ha;simp only[AV.all]at ha;exact .dW f cs vs hl fun i a v h1 h2=>ih i a v h1 h2 k (lz ha h1)
 |pt i m o j b t s h=>intro q w' k ha;exact .pt i m o j b t s (k.names _ _ _ (by simpa only[AV.all]using ha) h)
 |iN i m sz A h=>intro q w' k ha;exact .iN i m sz A (k.names _ _ _ (by simpa only[AV.all]using ha) h)
 |rs i m sz n b t c h hc hn hs=>intro q w' k ha;exact .rs i m sz n b t c (k.names _ _ _ (by simpa only[AV.all]using ha) h) hc hn hs
 |rc i m sz n b t h hc hn hs=>intro q w' k ha;exact .rc i m sz n b t (k.names _ _ _ (by simpa only[AV.all]using ha) h) hc hn hs
 |jx i m sz o c A=>intro q w' _ _;exact .jx i m sz o c A
 |rv i m sz o n b t c h hn=>intro q w' k ha;exact .rv i m sz o n b t c (k.names _ _ _ (by simpa only[AV.all]using ha) h) hn
 |mr i b t s h=>intro q w' k ha;exact .mr i b t s (k.names _ _ _ (by simpa only[AV.all]using ha) h)
 |bd f fs vs hl _ ih=>intro q w' k ha;simp only[AV.all]at ha;exact .bd f fs vs hl fun i a v h1 h2=>ih i a v h1 h2 k (lz ha h1)
 |iQ t a v _ ih=>intro q w' k ha;exact .iQ t a v (ih k (by simpa only[AV.all]using ha))
 |mv m a v _ ih=>intro q w' k ha;exact .mv m a v (ih k (by simpa only[AV.all]using ha))
def ax.ext{w':NW}{H':Hp}(e:Ext w H w' H'){a:AV}{v:Value}(h:ax w a v):ax w' a v:=h.aY e.toKeep (nG a)
theorem bs.ext{w w':NW}{H H':Hp}(e:Ext w H w' H'){F:List AV}{tm:Array Value}(h:bs w F tm):bs w' F tm:=⟨h.1,fun i a v ha hv=>(h.2 i a v ha hv).ext e⟩
theorem bs.aY{q:Nat->Bool}{w w':NW}(k:Keep q w w'){F:List AV}{tm:Array Value}(h:bs w F tm)(hF:aZ q F=true):bs w' F tm:=⟨h.1,fun i a v ha hv=>(h.2 i a v ha hv).aY k (lz hF ha)⟩
abbrev eJ:Nat->Bool:=fun _=>false
def Keep.lh(w:NW):Keep eJ w w.bare:=⟨Nat.le_refl _,fun _ _ h=>⟨rfl,h⟩,fun _ _ _ h _=>by cases h⟩
def Keep.mG(w:NW):Keep rO w.bare w:=⟨Nat.le_refl _,fun _ _ h=>⟨rfl,h⟩,fun _ _ _ _ h=>by cases h⟩
theorem ax.lh{w:NW}{a:AV}{v:Value}(h:ax w a v)(ha:a.all eJ=true):ax w.bare a v:=h.aY (Keep.lh w) ha
theorem ax.mG{w:NW}{a:AV}{v:Value}(h:ax w.bare a v):ax w a v:=h.aY (Keep.mG w) (nG a)
variable{i:Nat}
def aJ.lt(h:aJ w H){m b t s:Nat}(hn:w.nm i m=some (.at b t s)):b<w.heap.size:=h.fin b (h.own _ _ _ _ _ hn)
theorem aJ.none{w:NW}{H:Hp}(h:aJ w H){i:Nat}(hi:H.get i=none)(m:Nat):w.nm i m=none:=by
 cases e:w.nm i m with
 |none=>rfl
 |some z=>obtain⟨r,hr,_⟩:=h.di i m z e;rw[hi]at hr;cases hr
def aJ.later(h:aJ w H){m:Nat}(hi:H.get i=some r)(hm:r.fW<m):w.nm i m=Option.none:=by
 cases e:w.nm i m with
 |none=>rfl
 |some z=>obtain⟨s,hs,U6⟩:=h.di i m z e;rw[hi]at hs;cases hs;omega
theorem gJ.ext{w w':NW}{H H':Hp}(e:Ext w H w' H'){r:Row}{z:Rz}(hz:∀b t s,z=.at b t s->w'.heap[b]?=w.heap[b]?)(h:gJ w r z):gJ w' r z:=by
 cases z with
 |nil=>exact h
 |«at» b t s=> obtain⟨h1,cur,h2,h3,h5⟩:=h;exact⟨h1,cur,(hz b t s rfl).trans h2,h3,fun i a v ha hv=>(h5 i a v ha hv).ext e⟩
@[reducible] def NW.to(w:NW)(W:World):NW:={ w with toWorld:=W }
def NW.name(w:NW)(i m:Nat)(z:Rz):NW:={ w with nm:=fun j n=>if j=i/\n=m then some z else w.nm j n }
def NW.cA(w:NW)(i m:Nat)(z:Rz):(w.name i m z).nm i m=some z:=if_pos ⟨rfl,rfl⟩
def NW.gg(w:NW)(b:Nat):NW:={ w with O:=fun c=>c=b\/w.O c }
def Ext.fu(r:aJ w H)(o:Obj):Ext w H (w.to (w.alloc o)) H:={
 size:=jE
 free:=fun b hb hn=>⟨RowKit.Below.heap_alloc w.toWorld o b hb,hn⟩
 names:=fun _ _ _ _ h=>h
 os:=rfl,tape:=rfl,output:=rfl
 rest:=fun b hb hO U8=>⟨RowKit.Below.heap_alloc w.toWorld o b hb,hO,U8⟩
 base:=rfl }
theorem aJ.fu{w:NW}{H:Hp}(r:aJ w H)(o:Obj):aJ (w.to (w.alloc o)) H:={
 rows:=fun i row hi=>by obtain⟨h1,z,h2,h3⟩:=r.rows i row hi;refine⟨h1,z,h2,h3.ext (Ext.fu r o) fun b t s e=>?_⟩;subst e;exact RowKit.Below.heap_alloc w.toWorld o b (r.lt h2)
 di:=r.di,inj:=r.inj,own:=r.own
 cd:=r.cd.aY (Ext.fu r o).toKeep
 fin:=fun b hb=>by have:=r.fin b hb;simp;omega }
theorem Ext.drew(w:NW)(H:Hp):Ext w H (w.to w.drew) H:={ size:=Nat.le_refl _,free:=fun _ _ h=>⟨rfl,h⟩,names:=fun _ _ _ _ h=>h,os:=rfl,tape:=rfl,output:=rfl,rest:=fun _ _ h k=>⟨rfl,h,k⟩,base:=rfl }
theorem aJ.drew{w:NW}{H:Hp}(r:aJ w H):aJ (w.to w.drew) H:={
 rows:=fun i row hi=>by obtain⟨h1,z,h2,h3⟩:=r.rows i row hi;exact⟨h1,z,h2,h3.ext (Ext.drew w H) fun b t s e=>rfl⟩
 di:=r.di,inj:=r.inj,own:=r.own,fin:=r.fin,cd:=r.cd.aY (Ext.drew w H).toKeep }
def wm(r:aJ w H){row:Row}(YM:w.nm i row.fW=none)(XO:∀r',H.get i=some r'->r'.fW<=row.fW)(hok:row.ok)(cur:Array Value)(U6:row.fit cur.size cur.size)
  (hc:∀(k:Nat) a v,row.cells[k]?=some a->cur[k]?=some v->ax w a v) :
  aJ (((w.to (w.alloc (row.obj cur))).gg w.heap.size).name i row.fW (.at w.heap.size cur.size row.bB)) (H.put i row)/\
  Ext w H (((w.to (w.alloc (row.obj cur))).gg w.heap.size).name i row.fW (.at w.heap.size cur.size row.bB)) (H.put i row):=by
 have ex:Ext w H (((w.to (w.alloc (row.obj cur))).gg w.heap.size).name i row.fW (.at w.heap.size cur.size row.bB)) (H.put i row):={
  size:=by show w.heap.size<=(w.alloc _).heap.size;simp
  free:=fun b hb hn=>⟨RowKit.Below.heap_alloc w.toWorld _ b hb,fun h=>by
   rcases h with h|h
   ·omega
   ·exact hn h⟩
  names:=fun j n z _ h=>by
   show(if j=i/\n=row.fW then _ else _)=_;rw[if_neg]
   ·exact h
   ·rintro⟨rfl,rfl⟩;rw[YM]at h;cases h
  os:=rfl,tape:=rfl,output:=rfl
  rest:=fun b hb hO U8=>⟨RowKit.Below.heap_alloc w.toWorld _ b hb,.inr hO,fun j n t s h=>by
   have h:(if j=i/\n=row.fW then some (Rz.at w.heap.size cur.size row.bB)else w.nm j n)=some (.at b t s):=h;split at h
   ·cases h;omega
   ·exact U8 _ _ _ _ h⟩
  base:=rfl }
 have VJ:∀j n,(((w.to (w.alloc (row.obj cur))).gg w.heap.size).name i row.fW (.at w.heap.size cur.size row.bB)).nm j n=if j=i/\n=row.fW then some (Rz.at w.heap.size cur.size row.bB)else w.nm j n:=fun _ _=>rfl
 refine⟨{ rows:=fun j s hj=>?_,di:=fun j n z hz=>?_,inj:=fun j n j' n' b t s t' s' h1 h2=>?_,own:=fun j n b t s h=>?_,fin:=fun b hb=>?_,cd:=r.cd.aY ex.toKeep },ex⟩
 ·rw[Hp.bk]at hj;split at hj
  ·rename_i e;subst e;cases hj;refine⟨hok,.at w.heap.size cur.size row.bB,by rw[VJ,if_pos ⟨rfl,rfl⟩],rfl,cur,heap_alloc_new w.toWorld _,U6,fun k a v ha hv=>(hc k a v ha hv).ext ex⟩
  ·rename_i e;obtain⟨h1,z,h2,h3⟩:=r.rows j s hj;refine⟨h1,z,by rw[VJ,if_neg (fun h=>e h.1)];exact h2,h3.ext ex fun b t s e=>?_⟩;subst e;exact RowKit.Below.heap_alloc w.toWorld _ b (r.lt h2)
 ·rw[VJ]at hz;rw[Hp.bk];split at hz
  ·rename_i e;exact⟨row,by rw[if_pos e.1],by rw[e.2];exact Nat.le_refl _⟩
  ·obtain⟨r',h1,h2⟩:=r.di j n z hz;by_cases e:j=i
   ·subst e;exact⟨row,by rw[if_pos rfl],Nat.le_trans h2 (XO r' h1)⟩
   ·exact⟨r',by rw[if_neg e];exact h1,h2⟩
 ·rw[VJ]at h1 h2;split at h1<;>split at h2
  ·rename_i e1 e2;rw[e1.1,e2.1]
  ·cases h1;have:=r.lt h2;omega
  ·cases h2;have:=r.lt h1;omega
  ·exact r.inj _ _ _ _ _ _ _ _ _ h1 h2
 ·rw[VJ]at h;split at h
  ·cases h;exact .inl rfl
  ·exact .inr (r.own _ _ _ _ _ h)
 ·show b<(w.alloc _).heap.size;rcases hb with h|h
  ·subst h;simp
  ·have:=r.fin b h;simp;omega
def Kn{W:World}(r:aJ w H){row row':Row}{b t:Nat}(hi:H.get i=some row)(hn:w.nm i row.fW=some (.at b t row.bB))(hs:row'.bB=row.bB)(hv:row.fW<=row'.fW)(hok:row'.ok)
  (h1:W.os=w.os) (h2:W.tape=w.tape) (h3:W.output=w.output) (U':W.heap.size=w.heap.size) (hk:∀c,c≠b->W.heap[c]?=w.heap[c]?) (cur:Array Value) (Yi:W.heap[b]?=some (row'.obj cur)) (Wt:row'.fit cur.size t)
  (hc:∀(k:Nat) a v,row'.cells[k]?=some a->cur[k]?=some v->ax w a v) :
  aJ ((w.to W).name i row'.fW (.at b t row.bB)) (H.put i row')/\Ext w H ((w.to W).name i row'.fW (.at b t row.bB)) (H.put i row'):=by
 have hO:=r.own _ _ _ _ _ hn;have ex:Ext w H ((w.to W).name i row'.fW (.at b t row.bB)) (H.put i row'):={
  size:=by show w.heap.size<=W.heap.size;omega
  free:=fun c hc hO'=>⟨hk c (fun e=>hO' (e ▸ hO)),hO'⟩
  names:=fun j n z _ h=>by
   show(if j=i/\n=row'.fW then _ else _)=_;split
   ·rename_i e;obtain⟨rfl,rfl⟩:=e;obtain⟨r',g1,g2⟩:=r.di _ _ _ h;rw[hi]at g1;cases g1;have:row.fW=row'.fW:=jB;rw[<-this,hn]at h;exact h
   ·exact h
  os:=h1,tape:=h2,output:=h3
  rest:=fun c hc hO' U8=>⟨hk c (fun e=>U8 _ _ _ _ (e ▸ hn)),hO',fun j n t' s h=>by
   have h:(if j=i/\n=row'.fW then some (Rz.at b t row.bB)else w.nm j n)=some (.at c t' s):=h;split at h
   ·cases h;exact U8 _ _ _ _ hn
   ·exact U8 _ _ _ _ h⟩
  base:=rfl }
 have VJ:∀j n,((w.to W).name i row'.fW (.at b t row.bB)).nm j n=if j=i/\n=row'.fW then some (Rz.at b t row.bB)else w.nm j n:=fun _ _=>rfl
 refine⟨{ rows:=fun j s hj=>?_,di:=fun j n z hz=>?_,inj:=fun j n j' n' b' t1 s t' s' g1 g2=>?_,own:=fun j n b' t' s h=>?_,fin:=fun c hb=>?_,cd:=r.cd.aY ex.toKeep },ex⟩
 ·rw[Hp.bk]at hj;split at hj
  ·rename_i e;subst e;cases hj;exact⟨hok,.at b t row.bB,by rw[VJ,if_pos ⟨rfl,rfl⟩],hs.symm,cur,Yi,Wt,fun k a v ha hv=>(hc k a v ha hv).ext ex⟩
  ·rename_i e;obtain⟨g1,z,g2,g3⟩:=r.rows j s hj;refine⟨g1,z,by rw[VJ,if_neg (fun h=>e h.1)];exact g2,g3.ext ex fun c t' s' e'=>?_⟩;subst e';exact hk c fun e'=>by subst e';exact e (r.inj _ _ _ _ _ _ _ _ _ g2 hn)
 ·rw[VJ]at hz;rw[Hp.bk];split at hz
  ·rename_i e;exact⟨row',by rw[if_pos e.1],by rw[e.2];exact Nat.le_refl _⟩
  ·obtain⟨r',g1,g2⟩:=r.di j n z hz;by_cases e:j=i
   ·subst e;rw[hi]at g1;cases g1;exact⟨row',by rw[if_pos rfl],Nat.le_trans g2 hv⟩
   ·exact⟨r',by rw[if_neg e];exact g1,g2⟩
 ·rw[VJ]at g1 g2;split at g1<;>split at g2
  ·rename_i e1 e2;rw[e1.1,e2.1]
  ·rename_i e1 _;cases g1;rw[e1.1];exact r.inj _ _ _ _ _ _ _ _ _ hn g2
  ·rename_i _ e2;cases g2;rw[e2.1];exact r.inj _ _ _ _ _ _ _ _ _ g1 hn
  ·exact r.inj _ _ _ _ _ _ _ _ _ g1 g2
 ·rw[VJ]at h;split at h
  ·cases h;exact hO
  ·exact r.own _ _ _ _ _ h
 ·show c<W.heap.size;have:=r.fin c hb;omega
variable{sz:Nat}
def wP(r:aJ w H)(hi:H.get i=none)(e:TypeId)(U':0<sz):aJ (w.name i 0 .nil) (H.put i (.aG e sz []))/\Ext w H (w.name i 0 .nil) (H.put i (.aG e sz [])):=by
 have hau:=r.none hi;have VJ:∀j n,(w.name i 0 .nil).nm j n=if j=i/\n=0 then some Rz.nil else w.nm j n:=fun _ _=>rfl
 have ex:Ext w H (w.name i 0 .nil) (H.put i (.aG e sz [])):={
  size:=Nat.le_refl _,free:=fun _ _ h=>⟨rfl,h⟩
  names:=fun j n z _ h=>by
   rw[VJ,if_neg]
   ·exact h
   ·rintro⟨rfl,rfl⟩;rw[hau]at h;cases h
  os:=rfl,tape:=rfl,output:=rfl
  rest:=fun b hb hO U8=>⟨rfl,hO,fun j n t s h=>by
   rw[VJ]at h;split at h
   ·cases h
   ·exact U8 _ _ _ _ h⟩
  base:=rfl }
 refine⟨{ rows:=fun j s hj=>?_,di:=fun j n z hz=>?_,inj:=fun j n j' n' b t s t' s' h1 h2=>?_,own:=fun j n b t s h=>?_,fin:=r.fin,cd:=r.cd.aY ex.toKeep },ex⟩
 ·rw[Hp.bk]at hj;split at hj
  ·rename_i e';subst e';cases hj;exact⟨⟨U',fun _ h=>by simp at h⟩,.nil,by rw[VJ];exact if_pos ⟨rfl,rfl⟩,e,sz,rfl⟩
  ·rename_i e';obtain⟨h1,z,h2,h3⟩:=r.rows j s hj;exact⟨h1,z,by rw[VJ,if_neg (fun h=>e' h.1)];exact h2,h3.ext ex fun b t s _=>rfl⟩
 ·rw[VJ]at hz;rw[Hp.bk];split at hz
  ·rename_i e';exact⟨_,by rw[if_pos e'.1],by rw[e'.2];exact Nat.zero_le _⟩
  ·obtain⟨r',h1,h2⟩:=r.di j n z hz;have e':j≠i:=fun e'=>by subst e';rw[hi]at h1;cases h1
   exact⟨r',by rw[if_neg e'];exact h1,h2⟩
 ·rw[VJ]at h1 h2;split at h1
  ·cases h1
  ·split at h2
   ·cases h2
   ·exact r.inj _ _ _ _ _ _ _ _ _ h1 h2
 ·rw[VJ]at h;split at h
  ·cases h
  ·exact r.own _ _ _ _ _ h
def H5(i:Nat):Nat->Bool:=fun j=>!(j == i)
def Jd(i:Nat):List (Nat×Row)->Bool
 |[]=>true
 |(j,r)::l=>(j == i || aZ (H5 i) r.cells) && Jd i l
-- abstract kq
def cn(F:List AV):Operand->AV
 |.tmp t=>F.getD t .any
 |.const v=>.raw v
 |.global g=>.raw (.pointer (some ⟨g,0,none⟩))
 |.func f=>.raw (.func (.func f) #[] #[])
def cM(F:List AV)(d:Option Tmp)(a:AV):List AV:=match d with
 |some d=>F.set d a
 |none=>F
theorem bs.eval{w:NW}{F:List AV}{tm:Array Value}(h:bs w F tm)(ds:List Deferred)(x:Operand):ax w (cn F x) ((Act.mk tm ds).eval x):=by
 cases x with
 |tmp t=>
  simp only[cn,Act.eval];by_cases ht:t<F.length
  ·have Yj:t<tm.size:=by rw[<-h.1];exact ht
   have h1:F[t]?=some (F.getD t .any):=by simp[ht]
   have h2:tm[t]?=some (tm.getD t undef):=by simp[Yj]
   exact h.2 t _ _ h1 h2
  ·have:F.getD t .any=.any:=by simp[List.getElem?_eq_none (Nat.le_of_not_lt ht)]
   rw[this];exact .any _
 |const v=>exact .raw v
 |global g=>exact .raw _
 |func f=>exact .raw _
theorem bs.put{w:NW}{F:List AV}{tm:Array Value}(h:bs w F tm)(d:Option Tmp){a:AV}{v:Value}(hv:ax w a v)(ds:List Deferred):bs w (cM F d a) ((Act.mk tm ds).put d v).tmps:=by
 cases d with
 |none=>exact h
 |some d=>
  refine⟨by simp[cM,Act.put,h.1],fun i a' v' ha Vq=>?_⟩;simp only[cM,Act.put]at ha Vq;rw[List.getElem?_set]at ha;rw[Array.getElem?_setIfInBounds]at Vq;by_cases hd:d=i
  ·subst hd;simp only[if_true]at ha Vq;split at ha<;>split at Vq<;>simp_all
  ·simp only[if_neg hd]at ha Vq;exact h.2 i a' v' ha Vq
def Act.put_eq(tm:Array Value)(ds:List Deferred)(d:Option Tmp)(v:Value):(Act.mk tm ds).put d v=⟨((Act.mk tm ds).put d v).tmps,ds⟩:=by cases d<;>rfl
def gZ(Q:Exit->List AV->Hp->Prop)(w:NW)(H:Hp):Exit->Act->World->Prop:=fun e a W=> ∃tm F' H' w',W=w'.toWorld/\a=⟨tm,[]⟩/\Q e F' H'/\aJ w' H'/\bs w' F' tm/\fS w H w' H'
def dH(P:Program)(c:Code)(Q:Exit->List AV->Hp->Prop)(F:List AV)(H:Hp):Prop:=
 ∀(w:NW) tm,aJ w H->bs w F tm->Code.wp P c (gZ Q w H) ⟨tm,[]⟩ w.toWorld
def dT(F:List AV)(H:Hp)(F':List AV)(H':Hp):Prop:=∀(w:NW) tm,aJ w H->bs w F tm->∃w':NW,w'.toWorld=w.toWorld/\aJ w' H'/\bs w' F' tm/\fS w H w' H'
theorem dT.trans{F F' F'':List AV}{H H' VT:Hp}(h:dT F H F' H')(k:dT F' H' F'' VT):dT F H F'' VT:=fun w tm h1 h2=>by obtain⟨w',e,a,b,c⟩:=h w tm h1 h2;obtain⟨w'',e',a',b',c'⟩:=k w' tm a b;exact⟨w'',e'.trans e,a',b',c.trans c'⟩
def lc:List AV->List AV->Prop
 |[],[]=>True
 |a::l,b::m=>(b=.any\/a=b)/\lc l m
 |_,_=>False
theorem lc.get:∀{l m:List AV},lc l m->l.length=m.length/\∀(i:Nat) a b,l[i]?=some a->m[i]?=some b->b=.any\/a=b
 |[],[],_=>⟨rfl,fun i a b h=>by simp at h⟩
 |x::l,y::m,h=>by
  have ih:=lc.get h.2;refine⟨by simp[ih.1],fun i a b ha hb=>?_⟩;cases i with
  |zero=>simp at ha hb;subst ha hb;exact h.1
  |succ i=>exact ih.2 i a b (by simpa using ha) (by simpa using hb)
def dT.pt{F F':List AV}(H:Hp)(h:lc F F'):dT F H F' H:=fun w tm h1 h2=>by
 obtain⟨hl,hg⟩:=h.get;refine⟨w,rfl,h1,⟨hl.symm.trans h2.1,fun i a v ha hv=>?_⟩,fS.refl w H⟩;have hi:i<F.length:=by rw[hl];exact(List.getElem?_eq_some_iff.1 ha).1
 rcases hg i F[i] a (List.getElem?_eq_getElem hi) ha with rfl|he
 ·exact .any v
 ·exact he ▸ h2.2 i _ v (List.getElem?_eq_getElem hi) hv
def Fi(lo n:Nat)(F:List AV):List AV:=F.take lo++List.replicate n .any++F.drop (lo+n)
def nE(W:List (Nat×Nat))(F:List AV):List AV:=W.foldl (fun F d=>Fi d.1 d.2 F) F
section
variable {P:Program}{Q Q':Exit->List AV->Hp->Prop}{F:List AV}{H:Hp}
def gZ.qd{w w':NW}{H H':Hp}(e:fS w H w' H'){x:Exit}{a:Act}{w'':World}(h:gZ Q w' H' x a w''):gZ Q w H x a w'':=by obtain⟨tm,F',VT,n,h0,h1,h2,h3,h4,h5⟩:=h;exact⟨tm,F',VT,n,h0,h1,h2,h3,h4,e.trans h5⟩
def jW{c:Code}{F':List AV}{H':Hp}(hl:dT F H F' H')(h:dH P c Q F' H'):dH P c Q F H:=fun w tm h1 h2=>by obtain⟨w',e0,a,b,e⟩:=hl w tm h1 h2;rw[<-e0];exact wp_mono (h w' tm a b) fun _ _ _ hp=>hp.qd e
def uq(next:List AV->Hp->Prop)(Q:Exit->List AV->Hp->Prop):Exit->List AV->Hp->Prop
 |.normal,F,H=>next F H
 |e,F,H=>Q e F H
def sG(id:Nat)(Q:Exit->List AV->Hp->Prop):Exit->List AV->Hp->Prop
 |.exit id',F,H=>if id'=id then Q .normal F H else Q (.exit id') F H
 |e,F,H=>Q e F H
variable{x y:Code}
def LR(h:dH P x (uq (dH P y Q) Q) F H):dH P (.seq x y) Q F H:=fun w tm h1 h2=>by
 refine wp_seq (wp_mono (h w tm h1 h2) ?_);rintro e a W ⟨VH,F',H',w',rfl,rfl,hq,h3,h4,h5⟩;cases e with
 |normal=>exact wp_mono (hq w' VH h3 h4) fun _ _ _ hp=>hp.qd h5
 |exit id=>exact⟨VH,F',H',w',rfl,rfl,hq,h3,h4,h5⟩
 |goto l=>exact⟨VH,F',H',w',rfl,rfl,hq,h3,h4,h5⟩
 |ret=>exact⟨VH,F',H',w',rfl,rfl,hq,h3,h4,h5⟩
 |panic ch=>exact⟨VH,F',H',w',rfl,rfl,hq,h3,h4,h5⟩
 |outgrown=>exact⟨VH,F',H',w',rfl,rfl,hq,h3,h4,h5⟩
def aq(h:∀K:List AV->Hp->Prop,(∀F H,dH P y Q F H->K F H)->dH P x (uq K Q) F H):dH P (.seq x y) Q F H:=LR (h _ fun _ _ h=>h)
def C2{c:Code}{e:Exit}(hc:∀(R:Exit->Act->World->Prop) a w,R e a w->Code.wp P c R a w)(h:Q e F H):dH P c Q F H:=fun w tm h1 h2=>hc _ _ _ ⟨tm,F,H,w,rfl,rfl,h,h1,h2,fS.refl w H⟩
def Lh(h:Q .normal F H):dH P .skip Q F H:=C2 (fun _ _ _ h=>wp_skip h) h
def Ps{id:Nat}(h:Q (.exit id) F H):dH P (.exit id) Q F H:=C2 (fun _ _ _ h=>wp_exit h) h
def S5(h:Q .ret F H):dH P .ret Q F H:=C2 (fun _ _ _ h=>wp_ret h) h
def ON{c:Operand}{b:Bool}(hc:cn F c=.raw (.bool b))(ht:b=true->dH P x Q F H)(hf:b=false->dH P y Q F H):dH P (.cond c x y) Q F H:=fun w tm h1 h2=>by have he:=h2.eval [] c;rw[hc]at he;generalize hv:(Act.mk tm []).eval c=v at he;cases he;exact wp_cond_split hv (fun h=>ht h w tm h1 h2) (fun h=>hf h w tm h1 h2)
def Lr{id:Nat}{c:Code}(h:dH P c (sG id Q) F H):dH P (.block id c) Q F H:=fun w tm h1 h2=>by
 refine wp_block (wp_mono (h w tm h1 h2) ?_);rintro e a W ⟨VH,F',H',w',rfl,rfl,hq,h3,h4,h5⟩;cases e with
 |normal=>exact⟨VH,F',H',w',rfl,rfl,hq,h3,h4,h5⟩
 |exit id'=>
  simp only[sG]at hq;simp only[Exit.inBlock];split<;>rename_i hid
  ·rw[if_pos hid]at hq;exact⟨VH,F',H',w',rfl,rfl,hq,h3,h4,h5⟩
  ·rw[if_neg hid]at hq;exact⟨VH,F',H',w',rfl,rfl,hq,h3,h4,h5⟩
 |goto l=>exact⟨VH,F',H',w',rfl,rfl,hq,h3,h4,h5⟩
 |ret=>exact⟨VH,F',H',w',rfl,rfl,hq,h3,h4,h5⟩
 |panic ch=>exact⟨VH,F',H',w',rfl,rfl,hq,h3,h4,h5⟩
 |outgrown=>exact⟨VH,F',H',w',rfl,rfl,hq,h3,h4,h5⟩
def Uc{S:Type}{c:Code}(I:S->List AV->Hp->Prop)(μ:S->Nat)(s₀:S){F₀:List AV}{H₀:Hp}(U6:dT F H F₀ H₀)(h₀:I s₀ F₀ H₀)
  (round:∀s F H,I s F H->dH P c (uq (fun F' H'=>∃s' F'' VT,μ s'<μ s/\dT F' H' F'' VT/\I s' F'' VT) Q) F H):dH P (.loop c) Q F H:=fun w tm h1 h2=>by
 obtain⟨w0,ew,h1,h2,e0⟩:=U6 w tm h1 h2;rw[<-ew];refine wp_loop_ghost (fun n a W=>∃s F' H' VH w',μ s=n/\I s F' H'/\W=NW.toWorld w'/\a=⟨VH,[]⟩/\aJ w' H'/\bs w' F' VH/\fS w H w' H') (μ s₀) ⟨s₀,F₀,H₀,tm,w0,rfl,h₀,rfl,rfl,h1,h2,e0⟩ ?_;rintro n a W ⟨s,F',H',VH,w',rfl,hI,rfl,rfl,h3,h4,h5⟩;refine wp_mono (round s F' H' hI w' VH h3 h4) ?_;rintro e a W ⟨tm'',F'',VT,w'',rfl,rfl,hq,h6,h7,h8⟩;cases e with
 |normal=> obtain⟨s',F3,H3,I',hl,hI'⟩:=hq;obtain⟨w3,ew3,g1,g2,g3⟩:=hl w'' tm'' h6 h7;exact⟨μ s',I',s',F3,H3,tm'',w3,rfl,hI',ew3.symm,rfl,g1,g2,(h5.trans h8).trans g3⟩
 |exit id=>exact⟨tm'',F'',VT,w'',rfl,rfl,hq,h6,h7,h5.trans h8⟩
 |goto l=>exact⟨tm'',F'',VT,w'',rfl,rfl,hq,h6,h7,h5.trans h8⟩
 |ret=>exact⟨tm'',F'',VT,w'',rfl,rfl,hq,h6,h7,h5.trans h8⟩
 |panic ch=>exact⟨tm'',F'',VT,w'',rfl,rfl,hq,h6,h7,h5.trans h8⟩
 |outgrown=>exact⟨tm'',F'',VT,w'',rfl,rfl,hq,h6,h7,h5.trans h8⟩
end
-- regions
def sH(P:Program)(ops:Array Oper)(Q:Exit->Act->World->Prop)(o:Oper)(next:Act->World->Prop)(a:Act)(w:World):Prop:=
 if Region.wanted o (yielded ops a.tmps)then o.wp P a w next Q\/(o.asks P a w/\LetsOut Q)else next (a.put o.dst undef) w
def lK(P:Program)(ops:Array Oper)(o:Oper)(F:List AV)(H:Hp)(K:List AV->Hp->Prop):Prop:=
 ∀(w:NW) tm (Q:Exit->Act->World->Prop) (next:Act->World->Prop),aJ w H->bs w F tm->
  (∀VH (w':NW) F' H',K F' H'->aJ w' H'->bs w' F' VH->Ext w H w' H'->next ⟨VH,[]⟩ w'.toWorld)->sH P ops Q o next ⟨tm,[]⟩ w.toWorld
def oK(P:Program)(ops:Array Oper)(K:List AV->Hp->Prop)(l:List Oper)(F:List AV)(H:Hp):Prop:=
 ∀(w:NW) tm (Q:Exit->Act->World->Prop),aJ w H->bs w F tm->
  (∀VH (w':NW) F' H',K F' H'->aJ w' H'->bs w' F' VH->Ext w H w' H'->Q .normal ⟨VH,[]⟩ w'.toWorld)->wpList P ops Q l ⟨tm,[]⟩ w.toWorld
section
variable {P:Program}{ops:Array Oper}{F:List AV}{H:Hp}{K:List AV->Hp->Prop}
variable{o:Oper}
def lK.mono{K':List AV->Hp->Prop}(h:lK P ops o F H K)(hk:∀F H,K F H->K' F H):lK P ops o F H K':=
 fun w tm Q next h1 h2 hn=>h w tm Q next h1 h2 fun VH w' F' H' k=>hn VH w' F' H' (hk _ _ k)
def Ga(h:K F H):oK P ops K [] F H:=fun w tm Q h1 h2 hq=>hq tm w F H h h1 h2 (Ext.refl w H)
def zk{rest:List Oper}(h:lK P ops o F H (oK P ops K rest)):oK P ops K (o::rest) F H:=fun w tm Q h1 h2 hq=>by
 have:=h w tm Q (wpList P ops Q rest) h1 h2 fun VH w' F' H' k g1 g2 g3=>k w' VH Q g1 g2 fun tm'' w'' F'' VT k' g4 g5 g6=>hq tm'' w'' F'' VT k' g4 g5 (g3.trans g6)
 simpa only[sH,wpList]using this
def BU{id:Nat}{Q:Exit->List AV->Hp->Prop}(h:oK P ops (Q .normal) ops.toList F H):dH P (.region id ops false) Q F H:=fun w tm h1 h2=> wp_region_list (h w tm (gZ Q w H) h1 h2 fun VH w' F' H' k g1 g2 g3=>⟨VH,F',H',w',rfl,rfl,k,g1,g2,g3.pU⟩)
def Bx(P:Program)(o:Oper)(F:List AV)(H:Hp)(K:AV->Hp->Prop):Prop:=
 ∀(w:NW) tm,aJ w H->bs w F tm->∃(w':NW) (H':Hp) (r:AV),K r H'/\aJ w' H'/\Ext w H w' H'/\
  ((∃v,(execOp (Act.mk tm []).eval o).run P w.toWorld=.ok (.value v) w'.toWorld/\ax w' r v)\/((execOp (Act.mk tm []).eval o).run P w.toWorld=.ok .skip w'.toWorld/\r=.any))
def Mg(h:Bx P o F H (fun r H'=>K (cM F o.dst r) H')){w:NW}{tm:Array Value}{Q:Exit->Act->World->Prop}{next:Act->World->Prop}(h1:aJ w H)(h2:bs w F tm)
  (hn:∀VH (w':NW) F' H',K F' H'->aJ w' H'->bs w' F' VH->Ext w H w' H'->next ⟨VH,[]⟩ w'.toWorld):o.wp P ⟨tm,[]⟩ w.toWorld next Q:=by
 obtain⟨w',H',r,hk,g1,g2,g3⟩:=h w tm h1 h2;rcases g3 with⟨v,hr,hv⟩|⟨hr,rfl⟩
 ·simp only[Oper.wp,hr,Oper.upon];rw[Act.put_eq];exact hn _ w' _ H' hk g1 ((h2.ext g2).put o.dst hv []) g2
 ·simp only[Oper.wp,hr,Oper.upon];rw[Act.put_eq];exact hn _ w' _ H' hk g1 ((h2.ext g2).put o.dst (.any _) []) g2
def Sz(hg:o.guard=none)(h:Bx P o F H (fun r H'=>K (cM F o.dst r) H')):lK P ops o F H K:=fun w tm Q next h1 h2 hn=>by unfold sH;rw[if_pos (by simp[Region.wanted,hg])];exact .inl (Mg h h1 h2 hn)
end
-- calls
def ids(l:List (Nat×Row)):List Nat:=l.map (·.1)
def entry(l:List (Nat×Row)):Hp:=⟨ids l,l⟩
def ab(P:Program)(f:FuncId)(args:List AV)(l:List (Nat×Row))(R:AV->List (Nat×Row)->Prop):Prop:=
 ∀(w:NW) vs,aJ w (entry l)->bs w args vs->Calls P f vs w.toWorld fun e W=>∃v r H' w',W=NW.toWorld w'/\e=.returned v/\R r (Hp.l H')/\aJ w' H'/\ax w' r v/\fS w (entry l) w' H'
theorem ab.mono{P:Program}{f:FuncId}{args:List AV}{l:List (Nat×Row)}{R R':AV->List (Nat×Row)->Prop}(h:ab P f args l R)(hr:∀r l',R r l'->R' r l'):ab P f args l R':=
 fun w vs h1 h2=>(h w vs h1 h2).mono fun _ _ ⟨v,r,H',w',e0,e,k,g⟩=>⟨v,r,H',w',e0,e,hr _ _ k,g⟩
def iD(r:AV)(H:Hp)(r':AV)(H':Hp):Prop:=∀(w:NW) v,aJ w H->ax w r v->∃w':NW,w'.toWorld=w.toWorld/\aJ w' H'/\ax w' r' v/\fS w H w' H'
theorem iD.refl(r:AV)(H:Hp):iD r H r H:=fun w _ h1 h2=>⟨w,rfl,h1,h2,fS.refl w H⟩
theorem iD.trans{a b c:AV}{H H' VT:Hp}(h:iD a H b H')(k:iD b H' c VT):iD a H c VT:=fun w v h1 h2=>by obtain⟨w',e,x,y,z⟩:=h w v h1 h2;obtain⟨w'',e',x',y',z'⟩:=k w' v x y;exact⟨w'',e'.trans e,x',y',z.trans z'⟩
def iD.of_eq{r r':AV}(H:Hp)(h:r=r'):iD r H r' H:=h ▸ iD.refl r H
-- a call, where more is owned than the function is Z1
def gx(l:List (Nat×Row)):List (Nat×Row)->List (Nat×Row)
 |[]=>l
 |(i,r)::m=>gx (bg l i r) m
def NW.only(w:NW)(L:List Nat):NW:={ w with nm:=fun i m=>if L.contains i=true then w.nm i m else none }
theorem sI:∀{l:List (Nat×Row)} {i:Nat} {r:Row},aC l i=some r->(ids l).contains i=true
 |[],_,_,h=>by cases h
 |(j,s)::l,i,r,h=>by
  simp only[aC]at h;simp only[ids,List.map_cons,List.contains_cons,Bool.or_eq_true,beq_iff_eq];split at h
  ·rename_i e;exact .inl e
  ·exact .inr (sI (l:=l) h)
theorem Aj:∀{l:List (Nat×Row)} {i:Nat},(ids l).contains i=true->∃r,aC l i=some r
 |[],_,h=>by simp[ids]at h
 |(j,s)::l,i,h=>by
  simp only[ids,List.map_cons,List.contains_cons,Bool.or_eq_true,beq_iff_eq]at h;simp only[aC];split
  ·exact⟨s,rfl⟩
  ·rename_i e;exact Aj (h.resolve_left e)
theorem uR:∀(m l:List (Nat×Row)) (i:Nat),(∀j r,aC m j=some r->True)->(ids m).Nodup->aC (gx l m) i=(aC m i).or (aC l i)
 |[],l,i,_,_=>by simp[gx,aC]
 |(j,s)::m,l,i,h,hn=>by
  simp only[ids,List.map_cons,List.nodup_cons]at hn;simp only[gx];rw[uR m _ i (fun _ _ _=>trivial) hn.2,bS];simp only[aC];by_cases e:i=j
  ·subst e;have:aC m i=none:=by
    cases e':aC m i with
    |none=>rfl
    |some r=>exact(hn.1 (by have:=sI e';simpa[ids]using this)).elim
   simp[this]
  ·simp[e]
def Ao{P:Program}{f:FuncId}{args:List AV}{l:List (Nat×Row)}{R:AV->List (Nat×Row)->Prop}{K:AV->Hp->Prop}(hc:ab P f args l R)(VB:∀i r,aC l i=some r->H.get i=some r)(Wf:aZ (fun i=>(ids l).contains i) args=true)
  (hav:∀i r,aC l i=some r->aZ (fun i=>(ids l).contains i) r.cells=true)
  (hk:∀r l',R r l'->(∀i s,aC l' i=some s->(ids l).contains i=true\/H.get i=none)/\(ids l').Nodup/\K r ⟨H.B,gx H.l l'⟩) {w:NW} {vs:Array Value} (h1:aJ w H) (h2:bs w args vs) :
  Calls P f vs w.toWorld fun e W=>∃v r H' w',W=NW.toWorld w'/\e=.returned v/\K r H'/\aJ w' H'/\ax w' r v/\Ext w H w' H':=by
 have nmO:∀i m,(w.only (ids l)).nm i m=if(ids l).contains i=true then w.nm i m else none:=fun _ _=>rfl
 have kO:Keep (fun i=>(ids l).contains i) w (w.only (ids l)):=⟨Nat.le_refl _,fun _ _ h=>⟨rfl,h⟩,fun i m z hq h=>by rw[nmO,if_pos hq];exact h⟩;have hw1:aJ (w.only (ids l)) (entry l):=by
  refine{ rows:=fun i r hi=>?_,di:=fun i m z hz=>?_,inj:=fun i m j n b t s t' s' g1 g2=>?_,own:=fun i m b t s h=>?_,fin:=h1.fin,cd:=h1.cd.aY kO }
  ·obtain⟨g1,z,g2,g3⟩:=h1.rows i r (VB i r hi);refine⟨g1,z,by rw[nmO,if_pos (sI (l:=l) hi)];exact g2,?_⟩;cases z with
   |nil=>exact g3
   |«at» b t s=> obtain⟨e1,cur,e2,e3,e5⟩:=g3;exact⟨e1,cur,e2,e3,fun k a v ha hv=>(e5 k a v ha hv).aY kO (lz (hav i r hi) ha)⟩
  ·rw[nmO]at hz;split at hz
   ·rename_i hi;obtain⟨r,hr⟩:=Aj hi;obtain⟨r',e1,e2⟩:=h1.di i m z hz;rw[VB i r hr]at e1;cases e1;exact⟨r,hr,e2⟩
   ·cases hz
  ·rw[nmO]at g1 g2;split at g1<;>split at g2
   ·exact h1.inj _ _ _ _ _ _ _ _ _ g1 g2
   ·cases g2
   ·cases g1
   ·cases g1
  ·rw[nmO]at h;split at h
   ·exact h1.own _ _ _ _ _ h
   ·cases h
 refine(hc (w.only (ids l)) vs hw1 (h2.aY kO Wf)).mono ?_;rintro e W ⟨v,r,H',w',rfl,rfl,hR,g1,g2,g3⟩;obtain⟨k1,k2,k3⟩:=hk r H'.l hR;have XP:∀i,(ids l).contains i=true->∀m z,w.nm i m=some z->w'.nm i m=some z:=fun i hi m z hz=>g3.names i m z hi (by rw[nmO,if_pos hi];exact hz)
 -- who is the callee's, then
 let cq:Nat->Prop:=fun i=>(ids l).contains i=true\/∃s,aC H'.l i=some s
 have hcq:∀i,¬cq i->(ids l).contains i=false/\aC H'.l i=none:=fun i h=>⟨by cases e:(ids l).contains i with|true=>exact(h (.inl e)).elim|false=>rfl,by cases e:aC H'.l i with|none=>rfl|some s=>exact(h (.inr ⟨s,e⟩)).elim⟩
 classical
 let w2:NW:={ w' with nm:=fun i m=>if cq i then w'.nm i m else w.nm i m }
 have nm2:∀i m,w2.nm i m=if cq i then w'.nm i m else w.nm i m:=fun _ _=>rfl
 -- the caller's other things
 have Xo:∀i m b t s,¬cq i->w.nm i m=some (.at b t s)->w'.heap[b]?=w.heap[b]?/\w'.O b/\∀i m t s,w'.nm i m≠some (.at b t s):=fun i m b t s hi hn=>by
  have U8:∀i' m' t' s',(w.only (ids l)).nm i' m'≠some (.at b t' s'):=fun i' m' t' s' h=>by
   rw[nmO]at h;split at h
   ·rename_i Wa;have:=h1.inj _ _ _ _ _ _ _ _ _ hn h;subst this;rw[(hcq _ hi).1]at Wa;cases Wa
   ·cases h
  exact g3.rest b (h1.lt hn) (h1.own _ _ _ _ _ hn) U8
 have Z2:∀i,¬cq i->∀m,w'.nm i m=none:=fun i hi m=>g1.none (by exact(hcq i hi).2) m
 have k2':Keep rO w w2:=⟨g3.size,g3.free,fun i m z _ hz=>by
  rw[nm2];split
  ·rename_i hi;rcases hi with hi|⟨s,hs⟩
   ·exact XP i hi m z hz
   ·rcases k1 i s hs with hi|hi
    ·exact XP i hi m z hz
    ·rw[h1.none hi]at hz;cases hz
  ·exact hz⟩
 have k3':Keep rO w' w2:=⟨Nat.le_refl _,fun _ _ h=>⟨rfl,h⟩,fun i m z _ hz=>by
  rw[nm2];split
  ·exact hz
  ·rename_i hi;rw[Z2 i hi]at hz;cases hz⟩
 have Z3:Ext w H w2 ⟨H.B,gx H.l H'.l⟩:={ k2' with
  os:=g3.os,tape:=g3.tape,output:=g3.output
  rest:=fun b hb hO U8=>by
   obtain⟨e1,e2,e3⟩:=g3.rest b hb hO fun i m t s h=>by
    rw[nmO]at h;split at h
    ·exact U8 _ _ _ _ h
    ·cases h
   refine⟨e1,e2,fun i m t s h=>?_⟩;rw[nm2]at h;split at h
   ·exact e3 _ _ _ _ h
   ·exact U8 _ _ _ _ h
  base:=rfl }
 have VL:∀i,(Hp.mk H.B (gx H.l H'.l)).get i=(aC H'.l i).or (H.get i):=fun i=>uR _ _ _ (fun _ _ _=>trivial) k2
 refine⟨v,r,_,w2,rfl,rfl,k3,{ rows:=fun i s hi=>?_,di:=fun i m z hz=>?_,inj:=fun i m j n b t s t' s' e1 e2=>?_,own:=fun i m b t s h=>?_,fin:=g1.fin,cd:=h1.cd.aY Z3.toKeep },g2.aY k3' (nG r),Z3⟩
 ·rw[VL]at hi;by_cases Yk:cq i
  ·cases e:aC H'.l i with
   |some s'=>
    rw[e]at hi;cases hi;obtain⟨e1,z,e2,e3⟩:=g1.rows i s e;refine⟨e1,z,by rw[nm2,if_pos Yk];exact e2,?_⟩;cases z with
    |nil=>exact e3
    |«at» b t st=> obtain⟨f1,cur,f2,f3,f5⟩:=e3;exact⟨f1,cur,f2,f3,fun k a v ha hv=>(f5 k a v ha hv).aY k3' (nG a)⟩
   |none=>
    exfalso;rcases Yk with Wa|⟨s',Yl⟩
    ·obtain⟨r0,Z4⟩:=Aj Wa;obtain⟨_,z,e2,_⟩:=h1.rows i r0 (VB i r0 Z4);obtain⟨r',e3,_⟩:=g1.di i r0.fW z (XP i Wa _ _ e2);rw[show H'.get i=aC H'.l i from rfl,e]at e3;cases e3
    ·rw[e]at Yl;cases Yl
  ·rw[(hcq i Yk).2,Option.none_or]at hi;obtain⟨e1,z,e2,e3⟩:=h1.rows i s hi;refine⟨e1,z,by rw[nm2,if_neg Yk];exact e2,e3.ext Z3 fun b t st e=>?_⟩;subst e;exact(Xo i _ b t st Yk e2).1
 ·rw[nm2]at hz;rw[VL];split at hz
  ·obtain⟨s,e1,e2⟩:=g1.di i m z hz;exact⟨s,by rw[show aC H'.l i=some s from e1];rfl,e2⟩
  ·rename_i Yk;rw[(hcq i Yk).2,Option.none_or];exact h1.di i m z hz
 ·rw[nm2]at e1 e2;split at e1<;>split at e2
  ·exact g1.inj _ _ _ _ _ _ _ _ _ e1 e2
  ·rename_i _ hj;exact((Xo _ _ _ _ _ hj e2).2.2 _ _ _ _ e1).elim
  ·rename_i hi _;exact((Xo _ _ _ _ _ hi e1).2.2 _ _ _ _ e2).elim
  ·exact h1.inj _ _ _ _ _ _ _ _ _ e1 e2
 ·rw[nm2]at h;split at h
  ·exact g1.own _ _ _ _ _ h
  ·rename_i hi;exact(Xo _ _ _ _ _ hi h).2.1
def dh(P:Program)(t:TypeId):Option Nat:=(P.info? t).map (·.size)
def dI(P:Program)(t:TypeId):Option Bool:=(P.underlying t).map fun|.struct _|.array _ _=>true|_=>false
def cH(P:Program)(t:TypeId)(f:Nat):Option Nat:=match P.underlying t with
 |some (.struct fs)=>match fs[f]? with
  |some fd=>match dh P fd.type with
   |some (_+1)=>some fd.offset
   |_=>none
  |none=>none
 |_=>none
def iu(P:Program)(t:TypeId):Option TypeId:=match P.underlying t with
 |some (.slice e)=>some e
 |_=>none
def dR(P:Program)(t:TypeId):Option (List Value):=((P.info? t).bind (·.zero)).map fun v=>v.cells.toList
def AV.one:AV->Bool
 |.raw v=>v.oneCell'
 |.sl ..=>true
 |.ip _=>true
 |.pt ..=>true
 |.rs ..=>true
 |.rc ..=>true
 |.rv ..=>true
 |.mr _=>true
 |.dW ..=>true
 |.bd ..=>true
 |.iQ ..=>true
 |.mv ..=>true
 |_=>false
def cQ(l:List AV):Bool:=l.all AV.one
def AV.cells:AV->List AV
 |.agg cs=>cs
 |.raw (.agg vs)=>vs.toList.map .raw
 |v=>[v]
def Good(sz:Nat)(css:List (List AV)):Prop:=∀cs∈css,cs.length=sz/\cQ cs=true
def pT(H:Hp):AV->Option (Prop×List AV)
 |.ip cs=>some (True,cs)
 |.pt i m k j=>match H.get i with
  |some (.var _ cs)=>some (m=0,cs.drop j)
  |some (.aG _ _ css)=>some (m=css.length/\k<css.length,(css.getD k []).drop j)
  |some (.mp _ _)=>none
  |none=>none
 |_=>none
theorem gp{sz:Nat}:∀{l:List (List AV)},(∀x∈l,x.length=sz)->l.flatten.length=l.length*sz
 |[],_=>by simp
 |x::l,h=>by have ih:=gp (l:=l) (fun y hy=>h y (by simp[hy]));have hx:=h x jE;simp only[List.flatten_cons,List.length_append,hx,ih,List.length_cons,Nat.add_mul,Nat.one_mul];omega
theorem qH{sz:Nat}:∀{l:List (List AV)} {i j:Nat},(∀x∈l,x.length=sz)->i<l.length->j<sz->l.flatten[i*sz+j]?=(l.getD i [])[j]?
 |[],i,j,_,h,_=>by simp at h
 |x::l,i,j,hx,hi,hj=>by
  have Ze:=hx x jE;cases i with
  |zero=>simp only[List.flatten_cons,Nat.zero_mul,Nat.zero_add,List.getD_cons_zero];rw[List.getElem?_append_left jB]
  |succ i=> simp only[List.flatten_cons,List.getD_cons_succ];rw[List.getElem?_append_right (by rw[Nat.add_mul];omega),Ze,show(i+1)*sz+j-sz=i*sz+j by rw[Nat.add_mul];omega];exact qH (fun y hy=>hx y (by simp[hy])) (by simpa using hi) hj
def y6{j n:Nat}(hi:i<n)(hj:j<sz):i*sz+j<n*sz:=by have:=Nat.mul_le_mul_right sz (show i+1<=n from hi);rw[Nat.add_mul]at this;omega
def u0{k n:Nat}(h:k<n*sz):∃i j,i<n/\j<sz/\k=i*sz+j:=by
 have hz:0<sz:=by rcases Nat.eq_zero_or_pos sz with rfl|h'<;>simp_all
 exact⟨k / sz,k % sz,by rw[Nat.div_lt_iff_lt_mul hz];exact h,Nat.mod_lt _ hz,by rw[Nat.mul_comm];exact(Nat.div_add_mod k sz).symm⟩
def ve{css:List (List AV)}(h:∀cs∈css,cs.length=sz){k:Nat}(hk:k<css.length):(css.getD k []).length=sz:=by
 have:css.getD k []=css[k]:=by simp[hk]
 rw[this];exact h _ (List.getElem_mem hk)
section
variable {P:Program}{w:NW}{H:Hp}
theorem ax.one{a:AV}{v:Value}(h:ax w a v)(h1:a.one=true):v.oneCell'=true:=by cases h<;>first|exact h1|rfl|simp[AV.one]at h1
def th{w:World}(g i:Nat)(cur:Array Value)(t:TypeId)(fr:Nat×Nat)(hg:w.heap[g]?=some (.cells cur t fr)):w.cell? ⟨g,i,none⟩=cur[i]?:=by simp[World.cell?,hg]
variable{va:Value}{cs:List AV}
def J3{a:AV}{c:Prop}(h:ax w a va)(hw:aJ w H)(hc:pT H a=some (c,cs))(X5:c) :
  ∃(ad:Addr) (vs:Nat->Value),va=.pointer (some ad)/\(∀j,j<cs.length->w.cell? (ad.add j)=some (vs j))/\∀(j:Nat) u,cs[j]?=some u->ax w u (vs j):=by
 unfold pT at hc;split at hc
 ·cases hc;cases h with
  |ip _ ad vs hb hH D' hr=>exact⟨ad,vs,rfl,D',fun j u hu=>(hr j u hu).mG⟩
 ·rename_i i m k j;cases h with
  |pt _ _ _ _ b t s hn=>
  split at hc
  ·rename_i ty cs' hi;cases hc;subst X5;obtain⟨hok,z,hz,Vg⟩:=hw.rows i _ hi;have:z=.at b t s:=by have hz:w.nm i 0=some z:=hz;rw[hn]at hz;cases hz;rfl
   subst this;obtain⟨rfl,cur,hh,⟨hs,hl⟩,hr⟩:=Vg;have ZI:(Row.var ty cs').bB=0:=rfl;refine⟨⟨b,k*(Row.var ty cs').bB+j,none⟩,fun q=>cur.getD (j+q) undef,rfl,fun q hq=>?_,fun q u hu=>?_⟩
   ·rw[ju,ZI,Nat.mul_zero,Nat.zero_add,th b _ cur _ (0,0) hh];simp only[List.length_drop]at hq;have hl:cs'.length<=t:=hl;have:j+q<cur.size:=jB;simp[this]
   ·rw[List.getElem?_drop]at hu;have I':j+q<cs'.length:=(List.getElem?_eq_some_iff.1 hu).1;have hl:cs'.length<=t:=hl;have:j+q<cur.size:=jB;exact hr _ _ _ hu (by simp[this])
  ·rename_i e sz css hi;cases hc;obtain⟨rfl,hk⟩:=X5;obtain⟨hok,z,hz,Vg⟩:=hw.rows i _ hi;have:z=.at b t s:=by have hz:w.nm i css.length=some z:=hz;rw[hn]at hz;cases hz;rfl
   subst this;obtain⟨hs_,cur,hh,⟨hs,hl⟩,hr⟩:=Vg;have hs_:sz=s:=hs_.symm;subst hs_;have ZI:(Row.aG e sz css).bB=sz:=rfl;have O':=ve hok.2 hk;have Wb:(Row.aG e sz css).cells.length=css.length*sz:=gp hok.2;refine⟨⟨b,k*sz+j,none⟩,fun q=>cur.getD (k*sz+(j+q)) undef,rfl,fun q hq=>?_,fun q u hu=>?_⟩
   ·simp only[List.length_drop,O']at hq;rw[ju,th b _ cur _ (0,0) hh];have:=y6 hk (show j+q<sz from jB);have:k*sz+(j+q)<cur.size:=jB;rw[Nat.add_assoc];simp[this]
   ·rw[List.getElem?_drop]at hu;have I':j+q<sz:=by have:=(List.getElem?_eq_some_iff.1 hu).1;omega
    have h3:=y6 hk I';refine hr (k*sz+(j+q)) u _ ?_ ?_
    ·show css.flatten[k*sz+(j+q)]?=some u;rw[qH hok.2 hk I'];exact hu
    ·have:k*sz+(j+q)<cur.size:=jB;simp[this]
  ·cases hc
  ·cases hc
 ·cases hc
variable{t:TypeId}
def wT{w:World}{b:Bool}(h:dI P t=some b):(isAgg t).run P w=.ok b w:=by
 unfold dI at h;cases hu:P.underlying t with
 |none=>rw[hu]at h;cases h
 |some d=> rw[hu]at h;simp only[Option.map_some,Option.some.injEq]at h;simp only[isAgg,Sem.run_bind,run_underlying hu,Result.andThen_ok];subst h;cases d<;>rfl
variable{k:Nat}
def lV{w:World}(h:dh P t=some k):(sizeOf t).run P w=.ok k w:=by
 unfold dh at h;cases hi:P.info? t with
 |none=>rw[hi]at h;cases h
 |some i=> rw[hi]at h;simp only[Option.map_some,Option.some.injEq]at h;simp[sizeOf,typeInfo,hi,h]
def uv(ag:Bool)(k:Nat)(cs:List AV):AV:=if ag then .agg (cs.take k)else cs.getD 0 .any
def FQ{ad:Addr}{vs:Nat->Value}{ag:Bool}(WB:dI P t=some ag)(U':dh P t=some k)(hk:k<=cs.length)(Vr:1<=cs.length)
  (D':∀j,j<cs.length->w.cell? (ad.add j)=some (vs j)) (hr:∀(j:Nat) u,cs[j]?=some u->ax w u (vs j)) :
  ∃v,(loadVar t ad).run P w.toWorld=.ok v w.toWorld/\ax w (uv ag k cs) v:=by
 simp only[loadVar,Sem.run_bind,wT WB,Result.andThen_ok];cases ag with
 |false=>
  simp only[Bool.false_eq_true,if_false,uv];have h0:=D' 0 jB;rw[DA]at h0;refine⟨vs 0,by rw[run_load];simp[h0],?_⟩;have:cs[0]?=some (cs.getD 0 .any):=by simp[List.getElem?_eq_getElem (show 0<cs.length from jB)]
  exact hr 0 _ this
 |true=>
  simp only[if_true,uv];simp only[Sem.run_bind,lV U',Result.andThen_ok,run_loadCells w.toWorld ad k vs (fun j hj=>D' j jB),Sem.run_pure];refine⟨_,rfl,.agg _ _ jF fun i a v ha hv=>?_⟩;have hi:i<k:=by have:=(List.getElem?_eq_some_iff.1 ha).1;simp at this;omega
  rw[List.getElem?_take,if_pos hi]at ha;have Vq:v=vs i:=by
   have:(List.map vs (List.range k)).toArray[i]?=some (vs i):=by simp[hi]
   rw[this]at hv;cases hv;rfl
  subst Vq;exact hr i a ha
def G6{a:AV}{c:Prop}{ag:Bool}(h:ax w a va)(hw:aJ w H)(hc:pT H a=some (c,cs))(X5:c)(WB:dI P t=some ag)(U':dh P t=some k)(hk:k<=cs.length)(Vr:1<=cs.length) :
  ∃v,(Instr.loadAt t va).run P w.toWorld=.ok v w.toWorld/\ax w (uv ag k cs) v:=by
 obtain⟨ad,vs,rfl,D',hr⟩:=J3 h hw hc X5;obtain⟨v,h1,h2⟩:=FQ WB U' hk Vr D' hr;exact⟨v,by simpa[Instr.loadAt,Instr.sureAddr]using h1,h2⟩
variable{v:Value}
def ax.gL{a:AV}(h:ax w a v)(h1:cQ a.cells=true):ci w a.cells v.cells.toList:=by
 unfold AV.cells at*;split
 ·rename_i cs;cases h with
  |agg _ vs hl hr=>exact⟨by simpa[Value.cells]using hl,fun i a v ha hv=>hr i a v ha (by simpa[Value.cells]using hv)⟩
 ·rename_i vs;cases h;refine⟨by simp[Value.cells],fun i a v ha hv=>?_⟩;simp only[List.getElem?_map,Option.map_eq_some_iff]at ha;obtain⟨x,hx,rfl⟩:=ha;simp only[Value.cells]at hv;rw[hx]at hv;cases hv;exact .raw _
 ·rename_i hna hnr;have Zm:a.one=true:=by simpa[cQ]using h1
  have ho:=h.one Zm;have Yz:v.cells=#[v]:=by cases v<;>first|rfl|simp[Value.oneCell']at ho
  rw[Yz];refine⟨rfl,fun i a' v' ha hv=>?_⟩;cases i with
  |zero=>simp at ha hv;subst ha hv;exact h
  |succ i=>simp at ha
theorem ci.cQ{cs:List AV}{vs:List Value}(h:ci w cs vs)(h1:cQ cs=true):∀v∈vs,v.oneCell'=true:=by
 intro v hv;obtain⟨i,hi⟩:=List.getElem?_of_mem hv;have I':i<cs.length:=by rw[h.1];exact(List.getElem?_eq_some_iff.1 hi).1
 have:=h.2 i cs[i] v (List.getElem?_eq_getElem I') hi;exact this.one (by simp only[Gd.cQ,List.all_eq_true]at h1;exact h1 _ (List.getElem_mem I'))
def kH(cells:List AV)(off:Nat)(new:List AV):List AV:=cells.take off++new++cells.drop (off+new.length)
variable{new:List AV}{off:Nat}
def I8{cells:List AV}(h:off+new.length<=cells.length):(kH cells off new).length=cells.length:=by simp[kH];omega
def I2{cells:List AV}{p:Nat}(h:off<=cells.length):(kH cells off new)[p]?=if off<=p/\p<off+new.length then new[p-off]? else cells[p]?:=by
 unfold kH;rcases Nat.lt_or_ge p off with h1|h1
 ·rw[jN,List.append_assoc,List.getElem?_append_left jF,List.getElem?_take,if_pos h1]
 ·rcases Nat.lt_or_ge p (off+new.length)with h2|h2
  ·rw[if_pos ⟨h1,h2⟩,List.append_assoc,List.getElem?_append_right jF,List.getElem?_append_left jF];congr 1;simp;omega
  ·rw[jN,List.getElem?_append_right jF];simp only[List.length_append,List.length_take,List.getElem?_drop];congr 1;omega
variable{i:Nat}
def sx{b t:Nat}{r r':Row}{vs:List Value}(hw:aJ w H)(hi:H.get i=some r)(Vd:w.nm i r.fW=some (.at b t r.bB))(hn:ci w new vs)(h1:Gd.cQ new=true)(VB:off+new.length<=t)
  (Xx:r.zd=true) (hi2:r'.zd=true) (hs:r'.bB=r.bB) (he:r'.elem=r.elem) (hv:r.fW<=r'.fW) (hok:r'.ok) (U6:r'.cells.length<=t) (Z5:∀(p:Nat) a,r'.cells[p]?=some a->if off<=p/\p<off+new.length then new[p-off]?=some a else r.cells[p]?=some a) :
  ∃w':NW,(storeCells ⟨b,off,none⟩ vs).run P w.toWorld=.ok () w'.toWorld/\aJ w' (H.put i r')/\Ext w H w' (H.put i r')/\w'.nm i r'.fW=some (.at b t r.bB):=by
 obtain⟨_,z,hz,Vg⟩:=hw.rows i r hi;rw[Vd]at hz;cases hz;obtain⟨_,cur,hh,Wo,hr⟩:=Vg;rw[Row.sU Xx]at Wo;obtain⟨U',hl⟩:=Wo;rw[Row.sL Xx]at hh;have O':=hn.1;have B':=run_storeCells_at P b off r.elem vs 0 cur w.toWorld hh jB (hn.cQ h1);rw[Nat.add_zero]at B';generalize XQ:(cur.toList.take off++vs++cur.toList.drop (off+vs.length)).toArray=WC at B';have Z6:WC.size=t:=by subst XQ;simp;omega
 have Xk:(w.toWorld.setRow b WC).heap[b]?=some (.cells WC r.elem (0,0)):=setRow_heap w.toWorld b cur WC r.elem (0,0) hh;have VX:∀c,c≠b->(w.toWorld.setRow b WC).heap[c]?=w.heap[c]?:=fun c hc=>setRow_other w.toWorld b c WC hc
 have YN:(w.toWorld.setRow b WC).heap.size=w.heap.size:=size_setRow w.toWorld b WC;obtain⟨g1,g2⟩:=Kn (W:=w.toWorld.setRow b WC) hw hi Vd hs hv hok rfl rfl rfl YN VX WC (by rw[Row.sL hi2,he];exact Xk) (by rw[Row.sU hi2];exact⟨Z6,U6⟩) (fun p a v ha hv=>by
  have hp:=Z5 p a ha;have XR:p<t:=by have:=(List.getElem?_eq_some_iff.1 ha).1;omega
  subst XQ;simp only[List.getElem?_toArray]at hv;split at hp
  ·rename_i V3;rw[List.append_assoc,List.getElem?_append_right jF,List.getElem?_append_left jF]at hv;simp only[List.length_take,Array.length_toList]at hv;rw[show p-min off cur.size=p-off from jB]at hv;exact hn.2 _ a v hp hv
  ·rename_i V3;refine hr p a v hp ?_;rcases Nat.lt_or_ge p off with h1|h1
   ·rw[List.append_assoc,List.getElem?_append_left jF,List.getElem?_take,if_pos h1]at hv;simpa using hv
   ·rw[List.getElem?_append_right jF]at hv;simp only[List.length_append,List.length_take,Array.length_toList,List.getElem?_drop]at hv;rw[show off+vs.length+(p-(min off cur.size+vs.length))=p from jB]at hv;simpa using hv)
 exact⟨_,B',g1,g2,NW.cA _ _ _ _⟩
def zR(r:Row)(k j:Nat)(new:List AV):Row:=match r with
 |.var t cs=>.var t (kH cs j new)
 |.aG e sz css=>.aG e sz (css.set k (kH (css.getD k []) j new))
 |.mp ks vs=>.mp ks vs
def A7(r:Row)(m k j n:Nat):Prop:=match r with
 |.var _ cs=>m=0/\j+n<=cs.length
 |.aG _ _ css=>m=css.length/\k<css.length/\j+n<=(css.getD k []).length
 |.mp _ _=>False
def Rj{ty:TypeId}{m j n:Nat}{r:Row}{x:AV}(hw:aJ w H)(ha:ax w (.pt i m k j) va)(hi:H.get i=some r)(hx:ax w x v)(h1:Gd.cQ x.cells=true)(U':dh P ty=some n)(hn:x.cells.length=n)(P':A7 r m k j n) :
  ∃w':NW,(Instr.storeAt ty va v).run P w.toWorld=.ok () w'.toWorld/\aJ w' (H.put i (zR r k j x.cells))/\Ext w H w' (H.put i (zR r k j x.cells)):=by
 have hc:=hx.gL h1;have haw:v.cells.size=n:=by have:=hc.1;simp at this;omega
 have run:∀{W:World} (b off:Nat),(storeCells ⟨b,off,none⟩ v.cells.toList).run P w.toWorld=.ok () W->(Instr.storeAt ty (.pointer (some ⟨b,off,none⟩)) v).run P w.toWorld=.ok () W:=fun b off B'=>by simp only[Instr.storeAt,Instr.sureAddr,pure_bind,storeVar,Sem.run_bind,lV U',Result.andThen_ok,haw,ne_eq,not_true_eq_false,if_false];simpa using B'
 obtain⟨hok,z,hz,Vg⟩:=hw.rows i r hi;cases ha with
 |pt _ _ _ _ b t s Vd=>
 cases r with
 |var ty' cs=>
  obtain⟨rfl,VB⟩:=P';have hz:w.nm i 0=some z:=hz;rw[Vd]at hz;cases hz;obtain⟨rfl,cur,hh,⟨Z6,hl⟩,hr⟩:=Vg;have hl:cs.length<=t:=hl;have Wp:(Row.var ty' cs).bB=0:=rfl;have YO:=I8 (cells:=cs) (new:=x.cells) (off:=j) jB;obtain⟨w',B',g1,g2,_⟩:=sx (P:=P) (off:=j) (r':=.var ty' (kH cs j x.cells)) hw hi Vd hc h1 jB rfl rfl rfl rfl jl trivial (by show(kH cs j x.cells).length<=t;omega) (fun p a hp=>by
   have hp:(kH cs j x.cells)[p]?=some a:=hp;rw[I2 jB]at hp;split at hp
   ·rename_i h;rw[if_pos h];exact hp
   ·rename_i h;rw[if_neg h];exact hp)
  refine⟨w',run _ _ ?_,g1,g2⟩;rw[Wp,Nat.mul_zero,Nat.zero_add];exact B'
 |aG e sz css=>
  obtain⟨rfl,hk,VB⟩:=P';have hz:w.nm i css.length=some z:=hz;rw[Vd]at hz;cases hz;obtain⟨hs_,cur,hh,⟨Z6,hl⟩,hr⟩:=Vg;have hs_:sz=s:=hs_.symm;subst hs_;have Wp:(Row.aG e sz css).bB=sz:=rfl;have O':=ve hok.2 hk;have Wb:(Row.aG e sz css).cells.length=css.length*sz:=gp hok.2;have I':j+n<=sz:=jB;have hmul:=Nat.mul_le_mul_right sz (show k+1<=css.length from hk);rw[Nat.add_mul,Nat.one_mul]at hmul;have YO:=I8 (cells:=css.getD k []) (new:=x.cells) (off:=j) jB;have YP:∀cs∈css.set k (kH (css.getD k []) j x.cells),cs.length=sz:=fun cs h=>by
   rcases List.mem_or_eq_of_mem_set h with h|h
   ·exact hok.2 _ h
   ·rw[h,YO,O']
  have hfl':(css.set k (kH (css.getD k []) j x.cells)).flatten.length=css.length*sz:=by rw[gp YP,List.length_set]
  obtain⟨w',B',g1,g2,_⟩:=sx (P:=P) (off:=k*sz+j) (r':=.aG e sz (css.set k (kH (css.getD k []) j x.cells))) hw hi Vd hc h1 jB rfl rfl rfl rfl (by show css.length<=(css.set _ _).length;simp) ⟨hok.1,YP⟩ (by show(List.flatten _).length<=t;omega) (fun p a hp=>by
   have hp:(css.set k (kH (css.getD k []) j x.cells)).flatten[p]?=some a:=hp;have XR:p<css.length*sz:=by have:=(List.getElem?_eq_some_iff.1 hp).1;omega
   obtain⟨q,l,hq,Wk,rfl⟩:=u0 XR;rw[qH YP (by simpa using hq) Wk]at hp;show if k*sz+j<=q*sz+l/\q*sz+l<k*sz+j+x.cells.length then _ else css.flatten[q*sz+l]?=some a
   rw[qH hok.2 hq Wk];by_cases e':q=k
   ·subst e';have e1:(css.set q (kH (css.getD q []) j x.cells)).getD q []=kH (css.getD q []) j x.cells:=by simp[hk]
    rw[e1,I2 jB]at hp;split at hp
    ·rename_i h;rw[jP,show q*sz+l-(q*sz+j)=l-j from jB];exact hp
    ·rename_i h;rw[jN];exact hp
   ·have e1:(css.set k (kH (css.getD k []) j x.cells)).getD q []=css.getD q []:=by simp[List.getElem?_set,Ne.symm e']
    rw[e1]at hp;rw[if_neg]
    ·exact hp
    ·rintro⟨h1,h2⟩;apply e';rcases Nat.lt_trichotomy q k with h|h|h
     ·have:=Nat.mul_le_mul_right sz (show q+1<=k from h);rw[Nat.add_mul]at this;omega
     ·exact h
     ·have:=Nat.mul_le_mul_right sz (show k+1<=q from h);rw[Nat.add_mul]at this;omega)
  exact⟨w',run _ _ B',g1,g2⟩
 |mp ks vs=>exact P'.elim
def KG{x:AV}(hw:aJ w H)(hi:H.get i=none)(hx:ax w x v)(h1:Gd.cQ x.cells=true) :
  ∃(u:Value) (w':NW),(Instr.box t v).run P w.toWorld=.ok u w'.toWorld/\ax w' (.pt i 0 0 0) u/\aJ w' (H.put i (.var t x.cells))/\Ext w H w' (H.put i (.var t x.cells)):=by
 have hc:=hx.gL h1;have O':x.cells.length=v.cells.size:=by have:=hc.1;simpa using this
 obtain⟨g1,g2⟩:=wm (row:=.var t x.cells) hw (hw.none hi _) (fun r' hr=>by rw[hi]at hr;cases hr) trivial v.cells ⟨rfl,by show x.cells.length<=_;omega⟩ (fun k a u ha hu=>hc.2 k a u ha (by simpa using hu));refine⟨.pointer (some ⟨w.heap.size,0,none⟩),_,by simp[Instr.box,newVar,newRow];rfl,?_,g1,g2⟩;have:=ax.pt (w:=((w.to (w.alloc ((Row.var t x.cells).obj v.cells))).gg w.heap.size).name i (Row.var t x.cells).fW (.at w.heap.size v.cells.size (Row.var t x.cells).bB)) i 0 0 0 w.heap.size v.cells.size 0 (NW.cA _ _ _ _);simpa using this
variable{zs:List Value}
def yS{w:World}(h:dR P t=some zs):∃z:Value,(zeroValue t).run P w=.ok z w/\z.cells.toList=zs:=by
 unfold dR at h;cases hi:P.info? t with
 |none=>rw[hi]at h;cases h
 |some i=> rw[hi]at h;simp only[Option.bind_some,Option.map_eq_some_iff]at h;obtain⟨z,hz,rfl⟩:=h;exact⟨z,by simp[zeroValue,typeInfo,hi,hz],rfl⟩
def Mh(hw:aJ w H)(hi:H.get i=none)(hz:dR P t=some zs) :
  ∃(u:Value) (w':NW),(Instr.alloc t true (.tuple #[])).run P w.toWorld=.ok u w'.toWorld/\ax w' (.pt i 0 0 0) u/\aJ w' (H.put i (.var t (zs.map .raw)))/\Ext w H w' (H.put i (.var t (zs.map .raw))):=by
 obtain⟨z,B',rfl⟩:=yS (w:=w.toWorld) hz;obtain⟨g1,g2⟩:=wm (row:=.var t (z.cells.toList.map .raw)) hw (hw.none hi _) (fun r' hr=>by rw[hi]at hr;cases hr) trivial z.cells ⟨rfl,by show(z.cells.toList.map AV.raw).length<=_;simp⟩ (fun k a u ha hu=>by have ha:(z.cells.toList.map AV.raw)[k]?=some a:=ha;simp only[List.getElem?_map,Array.getElem?_toList,hu,Option.map_some,Option.some.injEq]at ha;subst ha;exact .raw _)
 refine⟨.pointer (some ⟨w.heap.size,0,none⟩),_,by simp[Instr.alloc,B',newVar,newRow];rfl,?_,g1,g2⟩;have:=ax.pt (w:=((w.to (w.alloc ((Row.var t (z.cells.toList.map .raw)).obj z.cells))).gg w.heap.size).name i (Row.var t (z.cells.toList.map .raw)).fW (.at w.heap.size z.cells.size (Row.var t (z.cells.toList.map .raw)).bB)) i 0 0 0 w.heap.size z.cells.size 0 (NW.cA _ _ _ _);simpa using this
end
abbrev PA:=Prop×AV
def iw:PA:=(False,.any)
def j7(P:Program)(w:NW)(s:Sem Value)(q:PA):Prop:=q.1->∃v,s.run P w.toWorld=.ok v w.toWorld/\ax w q.2 v
def Hs{P:Program}{s:Sem Value}:j7 P w s iw:=fun h=>h.elim
def iT:AV->Bool×AV
 |.gd p v=>(p,v)
 |v=>(true,v)
def wR(c x y:Bool):Bool:=if c then x else y
def G4(c a b:AV):PA:=match c with
 |.raw (.bool true)=>((iT a).1=true,(iT a).2)
 |.raw (.bool false)=>((iT b).1=true,(iT b).2)
 |_=>iw
def oa(c a b:AV):PA:=match c,iT a,iT b with
 |.raw (.bool c),(pa,.raw (.bool x)),(pb,.raw (.bool y))=>((c=true->pa=true)/\(c=false->pb=true),.raw (.bool (wR c x y)))
 |c,_,_=>G4 c a b
def oA(P:Program)(t:TypeId)(m:String):Option FuncId:=match P.info? t,P.underlying t with
 |some ti,some (.pointer _)=>match ti.methods.find? (·.name == m)with
  |some r=>if r.path.isEmpty then match r.func with
   |some (f,true)=>some f
   |_=>none
   else none
  |none=>none
 |_,_=>none
def qZ(P:Program):AV->PA
 |.mv m (.iQ t x)=>((oA P t m).isSome=true,.mv m (.iQ t x))
 |.ip cs=>(True,.ip cs)
 |.pt i m k j=>(True,.pt i m k j)
 |.raw (.pointer (some a))=>(True,.raw (.pointer (some a)))
 |.raw (.func (.func f) x y)=>(True,.raw (.func (.func f) x y))
 |.raw (.iface t v)=>(True,.raw (.iface t v))
 |.raw (.slice a n c)=>(True,.raw (.slice a n c))
 |.raw (.map (some r))=>(True,.raw (.map (some r)))
 |_=>iw
def s9(op:BinOp)(k:IntKind)(x y:Int):Int:=
 let a:=BitVec.ofInt k.bits x
 let b:=BitVec.ofInt k.bits y
 match op with
 |.and=>k.wrap (a &&& b).toNat
 |.or=>k.wrap (a ||| b).toNat
 |.xor=>k.wrap (a ^^^ b).toNat
 |_=>k.wrap (a &&& ~~~b).toNat
def yU(op:BinOp)(k:IntKind)(a:Int)(k':IntKind)(b:Int):PA:=match op with
 |.add=>(k=k',.raw (.int k (k.wrap (a+b))))
 |.sub=>(k=k',.raw (.int k (k.wrap (a-b))))
 |.mul=>(k=k',.raw (.int k (k.wrap (a*b))))
 |.quo=>(k=k'/\b≠0,.raw (.int k (k.wrap (a.tdiv b))))
 |.rem=>(k=k'/\b≠0,.raw (.int k (a.tmod b)))
 |.and=>(k=k',.raw (.int k (s9 .and k a b)))
 |.or=>(k=k',.raw (.int k (s9 .or k a b)))
 |.xor=>(k=k',.raw (.int k (s9 .xor k a b)))
 |.andNot=>(k=k',.raw (.int k (s9 .andNot k a b)))
 |.shl=>(0<=b,.raw (.int k (k.wrap (a*2 ^ (min b.toNat k.bits)))))
 |.shr=>(0<=b,.raw (.int k (a.fdiv (2 ^ (min b.toNat k.bits)))))
 |.eql=>(k=k',.raw (.bool (decide (a=b))))
 |.neq=>(k=k',.raw (.bool (!decide (a=b))))
 |.lss=>(k=k',.raw (.bool (decide (a<b))))
 |.leq=>(k=k',.raw (.bool (decide (a<=b))))
 |.gtr=>(k=k',.raw (.bool (decide (b<a))))
 |.geq=>(k=k',.raw (.bool (decide (b<=a))))
def yx(op:BinOp)(a b:ByteArray):PA:=match op with
 |.add=>(a.size+b.size<=9223372036854775807,.raw (.string (a++b)))
 |.eql=>(True,.raw (.bool (decide (a=b))))
 |.neq=>(True,.raw (.bool (!decide (a=b))))
 |.lss=>(True,.raw (.bool (Op.bytesLess a.toList b.toList)))
 |.gtr=>(True,.raw (.bool (!(Op.bytesLess a.toList b.toList || decide (a=b)))))
 |.leq=>(True,.raw (.bool (Op.bytesLess a.toList b.toList || decide (a=b))))
 |.geq=>(True,.raw (.bool (!(Op.bytesLess a.toList b.toList))))
 |_=>iw
def jr:List AV->List AV->Bool
 |[],[]=>true
 |.raw (.int _ a)::l,.raw (.int _ b)::m=>decide (a=b) && jr l m
 |.raw (.string a)::l,.raw (.string b)::m=>decide (a=b) && jr l m
 |.raw (.bool a)::l,.raw (.bool b)::m=>(a == b) && jr l m
 |_,_=>false
def sK(P:Program)(t:TypeId):Bool:=match P.underlying t with
 |some (.pointer _)=>true
 |_=>false
def yG(P:Program)(t:TypeId):Bool:=match P.underlying t with
 |some (.interface _)=>true
 |_=>false
def xm(P:Program)(t:TypeId):Bool:=match P.underlying t with
 |some .bool=>true
 |_=>false
def tz(P:Program)(t:TypeId):Bool:=match P.underlying t with
 |some .string=>true
 |_=>false
def ig(P:Program)(t:TypeId):Bool:=match P.underlying t with
 |some (.slice _)=>true
 |_=>false
inductive LK where
 |int (k:IntKind)|str|bool
 deriving DecidableEq
def kz:AV->Option LK
 |.raw (.int k _)=>some (.int k)
 |.raw (.string _)=>some .str
 |.raw (.bool _)=>some .bool
 |_=>none
def xK(P:Program)(leafK:TypeId->Option (List LK)):Nat->List Field->Option (List LK)
 |_,[]=>some []
 | off, f :: fs => if f.name ≠ "_" ∧ f.offset = off then match leafK f.type, dh P f.type with
   |some ks,some k=>if ks.length=k then(xK P leafK (off+k) fs).map (ks++·)else none
   |_,_=>none
  else none
def tf(P:Program):Nat->TypeId->Option (List LK)
 |0,_=>none
 |d+1,t=>match P.underlying t with
  |some (.int k)=>some [.int k]
  |some .string=>some [.str]
  |some .bool=>some [.bool]
  |some (.struct fs)=>if P.stoodInHeld t then none else xK P (tf P d) 0 fs.toList
  |_=>none
def zx(P:Program)(t:TypeId):Option (List LK):=if P.eqGuardType P.depth t then none else tf P 8 t
def wM(P:Program)(ne:Bool)(t:TypeId)(x y:AV):PA:=match x,y with
 |.raw (.bool a),.raw (.bool b)=>(xm P t=true,.raw (.bool (ne ^^ (a == b))))
 |.raw (.pointer none),.raw (.pointer b)=>(sK P t=true,.raw (.bool (ne ^^ b.isNone)))
 |.raw (.pointer (some _)),.raw (.pointer none)=>(sK P t=true,.raw (.bool ne))
 |.ip _,.raw (.pointer none)=>(sK P t=true,.raw (.bool ne))
 |.pt ..,.raw (.pointer none)=>(sK P t=true,.raw (.bool ne))
 |.raw (.slice none _ _),.raw (.slice b _ _)=>(ig P t=true,.raw (.bool (ne ^^ b.isNone)))
 |.raw (.slice (some _) _ _),.raw (.slice none _ _)=>(ig P t=true,.raw (.bool ne))
 |.sl _ _ css _,.raw (.slice none _ _)=>(ig P t=true/\css≠[],.raw (.bool ne))
 |.agg cs,.agg ds=>match zx P t with
  |some ks=>(dI P t=some true/\cs.map kz=ks.map some/\ds.map kz=ks.map some,.raw (.bool (ne ^^ jr cs ds)))
  |none=>iw
 |_,_=>iw
def fI(P:Program)(op:BinOp)(t:TypeId)(x y:AV):PA:=match x,y with
 |.raw (.int k a),.raw (.int k' b)=>yU op k a k' b
 |.raw (.string a),.raw (.string b)=>yx op a b
 |x,y=>match op with
  |.eql=>wM P false t x y
  |.neq=>wM P true t x y
  |_=>iw
def tD(op:UnOp)(x:AV):PA:=match op,x with
 |.not,.raw (.bool b)=>(True,.raw (.bool (!b)))
 |.neg,.raw (.int k n)=>(True,.raw (.int k (k.wrap (0-n))))
 |_,_=>iw
def py(P:Program)(H:Hp)(t:TypeId)(a:AV):PA:=match pT H a,dI P t,dh P t with
 |some (c,cs),some true,some k=>(c/\k<=cs.length/\1<=cs.length,.agg (cs.take k))
 |some (c,cs),some false,some k=>(c/\k<=cs.length/\1<=cs.length,cs.getD 0 .any)
 |_,_,_=>iw
def sN(P:Program)(t:TypeId)(a:AV)(f:Nat):PA:=match a,cH P t f with
 |.ip cs,some off=>(True,.ip (cs.drop off))
 |.pt i m k j,some off=>(True,.pt i m k (j+off))
 |_,_=>iw
def wC(P:Program)(t:TypeId)(f:Nat):Option (TypeId×Nat):=match P.underlying t with
 |some (.struct fs)=>(fs[f]?).map fun fd=>(fd.type,fd.offset)
 |_=>none
def zm(P:Program)(t:TypeId)(cs:List AV)(off:Nat):PA:=match dI P t,dh P t with
 |some true,some k=>(off+k<=cs.length,.agg ((cs.drop off).take k))
 |some false,some _=>(off<cs.length,cs.getD off .any)
 |_,_=>iw
def uZ(P:Program)(t:TypeId)(a:AV)(f:Nat):PA:=match a,wC P t f with
 |.agg cs,some (ft,off)=>zm P ft cs off
 |_,_=>iw
def iC(P:Program)(t:TypeId):Option Nat:=(iu P t).bind (dh P)
def z7(P:Program)(t:TypeId):Option (Nat×Nat):=match P.underlying t with
 |some (.array len e)=>(dh P e).map fun s=>(len,s)
 |_=>none
def yP(o:Option (Nat×Nat))(i:Int)(f:Nat->AV):PA:=match o with
 |some (len,s)=>(0<=i/\i<len,f (i.toNat*s))
 |none=>iw
def tx(P:Program)(t:TypeId)(a i:AV):PA:=match a,i with
 |.sl _ sz css d,.raw (.int _ i)=>(iC P t=some sz/\0<=i/\i<css.length,.ip (css.getD i.toNat d))
 |.rs d m sz n,.raw (.int _ i)=>(iC P t=some sz/\0<=i/\i<n,.pt d m i.toNat 0)
 |.rc d m sz n,.raw (.int _ i)=>(iC P t=some sz/\0<=i/\i<n,.pt d m i.toNat 0)
 |.rv d m sz o n,.raw (.int _ i)=>(iC P t=some sz/\0<=i/\i<n,.pt d m (o+i.toNat) 0)
 |.pt d m k j,.raw (.int _ i)=>yP (z7 P t) i fun o=>.pt d m k (j+o)
 |.ip cs,.raw (.int _ i)=>yP (z7 P t) i fun o=>.ip (cs.drop o)
 |_,_=>iw
def eT(s:ByteArray)(i:Int):Int:=((s.data[i.toNat]?.getD 0).toNat:Int)
def tu(P:Program)(t:TypeId)(a i:AV):PA:=match a,i with
 |.raw (.string s),.raw (.int _ i)=>(tz P t=true/\0<=i/\i<s.size,.raw (.int .u8 (eT s i)))
 |_,_=>iw
def v6(a:AV)(i:Nat):PA:=match a with
 |.aQ vs=>(i<vs.length,vs.getD i .any)
 |_=>iw
def rb:Option AV->Option (Option Int)
 |none=>some none
 |some (.raw (.int _ i))=>some (some i)
 |_=>none
def tA(P:Program)(t:TypeId)(a:AV)(lo hi mx:Option AV):PA:=match a,rb lo,rb hi,rb mx with
 |.raw (.string s),some lo,some hi,some none=>(tz P t=true/\0<=lo.getD 0/\lo.getD 0<=hi.getD s.size/\hi.getD s.size<=s.size,.raw (.string (s.extract (lo.getD 0).toNat (hi.getD s.size).toNat)))
 |.sl _ sz css d,some lo,some hi,some none=> (iC P t=some sz/\0<=lo.getD 0/\lo.getD 0<=hi.getD css.length/\hi.getD css.length<=css.length,.sl false sz ((css.drop (lo.getD 0).toNat).take ((hi.getD css.length).toNat-(lo.getD 0).toNat)) d)
 |.rs d m sz n,some none,some hi,some none=>(iC P t=some sz/\0<=hi.getD n/\hi.getD n<=n,.rs d m sz (hi.getD n).toNat)
 |.rs d m sz n,some (some lo),some hi,some none=>(iC P t=some sz/\0<=lo/\lo<=hi.getD n/\hi.getD n<=n,.rv d m sz lo.toNat ((hi.getD n).toNat-lo.toNat))
 |.rc d m sz n,some none,some hi,some none=>(iC P t=some sz/\0<=hi.getD n/\hi.getD n<=m,.rc d m sz (hi.getD n).toNat)
 |.rc d m sz n,some (some lo),some hi,some none=>(iC P t=some sz/\0<=lo/\lo<=hi.getD n/\hi.getD n<=m,.rv d m sz lo.toNat ((hi.getD n).toNat-lo.toNat))
 |.rc d m sz n,some lo,some (some hi),some (some mx)=>(iC P t=some sz/\0<=lo.getD 0/\lo.getD 0<=hi/\hi<=mx/\mx<=m,.rv d m sz (lo.getD 0).toNat (hi.toNat-(lo.getD 0).toNat))
 |.rv d m sz o n,some lo,some hi,some none=>(iC P t=some sz/\0<=lo.getD 0/\lo.getD 0<=hi.getD n/\hi.getD n<=n,.rv d m sz (o+(lo.getD 0).toNat) ((hi.getD n).toNat-(lo.getD 0).toNat))
 |.rs d m sz n,some lo,some (some hi),some (some mx)=>(iC P t=some sz/\0<=lo.getD 0/\lo.getD 0<=hi/\hi<=mx/\mx<=n,.rv d m sz (lo.getD 0).toNat (hi.toNat-(lo.getD 0).toNat))
 |.raw (.slice none 0 0),some lo,some hi,some none=>(ig P t=true/\(iC P t).isSome=true/\lo.getD 0=0/\hi.getD 0=0,.raw (.slice none 0 0))
 |_,_,_,_=>iw
def Ig:List AV->Option (List Value)
 |[]=>some []
 |.raw v::l=>(Ig l).map (v::·)
 |_=>none
def ww(fn:Fn)(first captured:List AV):PA:=match fn,first with
 |.func f,[]=>(True,.dW f captured)
 |.func f,x::l=>(captured=[],.bd f (x::l))
 |.method m,[x]=>(captured=[],.mv m x)
 |_,_=>iw
def vD(P:Program)(t:TypeId)(x:AV):PA:=match x,yG P t,P.underlying t with
 |.raw v,false,some _=>(True,.raw (.iface t v))
 |a,false,some _=>(True,.iQ t a)
 |_,_,_=>iw
def C8(P:Program)(t:TypeId):Option IntKind:=match P.underlying t with
 |some (.int k)=>some k
 |_=>none
def wz(P:Program)(s d:TypeId)(x:AV):PA:=match x,C8 P d with
 |.raw (.int _ n),some k=>((P.underlying s).isSome=true,.raw (.int k (k.wrap n)))
 |.raw (.string s'),none=>((P.underlying s).isSome=true/\tz P d=true,.raw (.string s'))
 |_,_=>iw
def wK(P:Program)(t:TypeId):Bool:=match P.underlying t with
 |some (.map _ _)=>true
 |_=>false
def uK(P:Program)(H:Hp)(t:TypeId)(x:AV):PA:=match x with
 |.mr i=>if ka.contains t=true then(match H.get i with
  |some (.mp ks _)=>(wK P t=true,.raw (.int .i64 ks.length))
  |_=>iw)else iw
 |.sl _ _ css _=>(ig P t=true,.raw (.int .i64 css.length))
 |.rs _ _ _ n=>(ig P t=true,.raw (.int .i64 n))
 |.rc _ _ _ n=>(ig P t=true,.raw (.int .i64 n))
 |.rv _ _ _ _ n=>(ig P t=true,.raw (.int .i64 n))
 |.raw (.slice _ n _)=>(ig P t=true,.raw (.int .i64 n))
 |.raw (.string s)=>(tz P t=true,.raw (.int .i64 s.size))
 |_=>iw
def yA(P:Program)(t:TypeId)(x:AV):PA:=match x with
 |.sl true _ css _=>(ig P t=true,.raw (.int .i64 css.length))
 |.rc _ m _ _=>(ig P t=true,.raw (.int .i64 m))
 |.raw (.slice _ _ n)=>(ig P t=true,.raw (.int .i64 n))
 |_=>iw
def xN(mx:Bool)(args:List AV):PA:=match args with
 |[.raw (.int k a),.raw (.int k' b)]=>(k=k',.raw (.int k (if mx then(if b>a then b else a)else(if b<a then b else a))))
 |_=>iw
def mI(P:Program)(H:Hp)(b:Builtin)(ts:List TypeId)(args:List AV):PA:=match b,ts,args with
 |.len,t::_,x::_=>uK P H t x
 |.cap,t::_,x::_=>yA P t x
 |.max,_,args=>xN true args
 |.min,_,args=>xN false args
 |_,_,_=>iw
def jf(P:Program)(t:TypeId):Option (List (Nat×Nat)):=match P.underlying t with
 |some (.struct fs)=>fs.toList.mapM fun f=>(dh P f.type).map fun k=>(f.offset,k)
 |_=>none
def sk(pl:Nat->Option (Nat×Nat))(cells:List AV):List (Nat×AV)->Option (List AV)
 |[]=>some cells
 |(i,a)::rest=>match pl i with
  |some (off,k)=>if a.cells.length=k/\off+k<=cells.length then sk pl (kH cells off a.cells) rest else none
  |none=>none
def wy(P:Program)(t:TypeId)(parts:List (Nat×AV)):PA:=match dR P t,jf P t with
 |some zs,some pl=>match sk (fun i=>pl[i]?) (zs.map .raw) parts with
  |some cs=>(cQ ((parts.map fun p=>p.2.cells).flatten)=true,.agg cs)
  |none=>iw
 |_,_=>iw
def vq(P:Program)(ev:Operand->AV)(H:Hp):Op->PA
 |.move x=>(True,ev x)
 |.assign x=>(True,ev x)
 |.pick c a b=>oa (ev c) (ev a) (ev b)
 |.nilCheck x=>qZ P (ev x)
 |.binOp op t x y _=>fI P op t (ev x) (ev y)
 |.unOp op _ x=>tD op (ev x)
 |.load t a=>py P H t (ev a)
 |.fieldAddr t a f=>sN P t (ev a) f
 |.field t a f=>uZ P t (ev a) f
 |.indexAddr t a i=>tx P t (ev a) (ev i)
 |.index t a i=>tu P t (ev a) (ev i)
 |.extract a i=>v6 (ev a) i
 |.slice t a lo hi mx=>tA P t (ev a) (lo.map ev) (hi.map ev) (mx.map ev)
 |.makeFunc fn first captured=>ww fn (first.toList.map ev) (captured.toList.map ev)
 |.makeInterface t x=>vD P t (ev x)
 |.convert s d x=>wz P s d (ev x)
 |.build t parts=>wy P t (parts.toList.map fun p=>(p.1,ev p.2))
 |.call { callee:=.builtin b,args,argTypes }=>mI P H b argTypes.toList (args.toList.map ev)
 |_=>iw
section
variable {P:Program}{w:NW}{H:Hp}
def df{v u:Value}(h:ax w (.raw v) u):u=v:=by cases h;rfl
def Dm(a b:Int):(a == b)=decide (a=b):=by rw[Bool.eq_iff_iff];simp
def xD(a b:ByteArray):(a.toList == b.toList)=decide (a=b):=by
 rw[Bool.eq_iff_iff,beq_iff_eq,decide_eq_true_iff];constructor
 ·intro h;exact ByteArray.ext (by simpa[ByteArray.toList_eq]using h)
 ·rintro rfl;rfl
def yX{a:AV}{lk:LK}(h:kz a=some lk):match lk with
  |.int k=>∃n,a=.raw (.int k n)
  |.str=>∃s,a=.raw (.string s)
  |.bool=>∃b,a=.raw (.bool b):=by
 unfold kz at h;split at h<;>cases h<;>exact⟨_,rfl⟩
theorem Jg:∀{a c b d:List AV},a.map kz=c.map kz->(∀x∈a,(kz x).isSome=true)->jr (a++b) (c++d)=(jr a c && jr b d)
 |[],[],b,d,_,_=>by simp[jr]
 |[],_::_,_,_,h,_=>by simp at h
 |_::_,[],_,_,h,_=>by simp at h
 |x::a,y::c,b,d,h,hs=>by simp only[List.map_cons,List.cons.injEq]at h;have ih:=Jg (b:=b) (d:=d) h.2 (fun z hz=>hs z (by simp[hz]));obtain⟨lk,hx⟩:=Option.isSome_iff_exists.1 (hs x jE);have hy:=h.1.symm.trans hx;have h1:=yX hx;have h2:=yX hy;cases lk<;>(obtain⟨u,rfl⟩:=h1;obtain⟨v,rfl⟩:=h2;simp only[List.cons_append,jr,ih,Bool.and_assoc])
variable{cs:List AV}
def CK{ks:List LK}(h:cs.map kz=ks.map some):(∀x∈cs,(kz x).isSome=true)/\cs.length=ks.length:=by refine⟨fun x hx=>?_,by have:=congrArg List.length h;simpa using this⟩;have:kz x∈cs.map kz:=List.mem_map.2 ⟨x,hx,rfl⟩;rw[h]at this;obtain⟨k,_,hk⟩:=List.mem_map.1 this;rw[<-hk];rfl
variable{t:TypeId}
def TJ{lk:LK}{a b:AV}{va vb:Value}(ht:P.underlying t=some (match lk with|.int k=>.int k|.str=>.string|.bool=>.bool))(ha:ax w a va)(hb:ax w b vb)(hka:kz a=some lk)(hkb:kz b=some lk)(d:Nat) :
  (Op.equalIn (d+1) t va vb).run P w.toWorld=.ok (jr [a] [b]) w.toWorld:=by
 have h1:=yX hka;have h2:=yX hkb;cases lk with
 |int k=>
  obtain⟨m,rfl⟩:=h1;obtain⟨n,rfl⟩:=h2;have:=df ha;have:=df hb;subst_vars
  rw[run_equalIn_int w d t k k _ _ ht];simp[jr,Dm]
 |str=>
  obtain⟨m,rfl⟩:=h1;obtain⟨n,rfl⟩:=h2;have:=df ha;have:=df hb;subst_vars
  rw[run_equalIn_string w d t _ _ ht,xD];simp[jr]
 |bool=>
  obtain⟨m,rfl⟩:=h1;obtain⟨n,rfl⟩:=h2;have:=df ha;have:=df hb;subst_vars
  rw[run_equalIn_bool w d t _ _ ht];simp[jr]
def Dt(P:Program)(t:TypeId)(v:Value)(vs:List Value):Prop:=(dI P t=some true/\v=.agg vs.toArray)\/(dI P t=some false/\vs=[v])
def Fs{xs:Array Value}{off k:Nat}(WB:(dI P t).isSome=true)(U':dh P t=some k)(h1:dI P t=some false->k=1)(VB:off+k<=xs.size) :
  ∃v,(part t xs off).run P w.toWorld=.ok v w.toWorld/\Dt P t v ((xs.toList.drop off).take k):=by
 obtain⟨ag,WB⟩:=Option.isSome_iff_exists.1 WB;cases ag with
 |true=>
  refine⟨.agg (xs.extract off (off+k)),by simp[part,wT WB,lV U'],.inl ⟨WB,?_⟩⟩;congr 1
  apply Array.ext';simp[Array.toList_extract,List.extract_eq_take_drop]
 |false=> obtain rfl:=h1 WB;have h2:xs[off]?=some (xs[off]' jB):=Array.getElem?_eq_getElem jB;refine⟨xs[off]' jB,by simp[part,wT WB,h2],.inr ⟨WB,?_⟩⟩;rw[List.drop_eq_getElem_cons jF];simp
variable{vs:List Value}
def IL(h:ci w cs vs)(n:Nat):ci w (cs.drop n) (vs.drop n):=⟨by simp[h.1],fun i a v ha hv=>h.2 (n+i) a v (by simpa using ha) (by simpa using hv)⟩
def Kw(h:ci w cs vs)(n:Nat):ci w (cs.take n) (vs.take n):=⟨by simp[h.1],fun i a v ha hv=>by
 rw[List.getElem?_take]at ha hv;split at ha
 ·rename_i hi;rw[if_pos hi]at hv;exact h.2 i a v ha hv
 ·cases ha⟩
def Se:∀(n:Nat),(∀(t:TypeId) (ks:List LK),tf P n t=some ks->∀(d:Nat) (v v':Value) (cs ds:List AV) (vs us:List Value),Dt P t v vs->Dt P t v' us->ci w cs vs->ci w ds us->cs.map kz=ks.map some->ds.map kz=ks.map some->
   (Op.equalIn (d+n) t v v').run P w.toWorld=.ok (jr cs ds) w.toWorld):=by
 intro n;induction n with
 |zero=>intro t ks h;simp[tf]at h
 |succ n ih=>
  intro t ks hk d v v' cs ds vs us hv Vq VV XS h1 h2;have leaf:∀lk:LK,P.underlying t=some (match lk with|.int k=>.int k|.str=>.string|.bool=>.bool)->ks=[lk]->dI P t=some false->(Op.equalIn (d+(n+1)) t v v').run P w.toWorld=.ok (jr cs ds) w.toWorld:=by
   rintro lk ht rfl WB;have e1:vs=[v]:=by
    rcases hv with⟨h,_⟩|⟨_,h⟩
    ·rw[WB]at h;cases h
    ·exact h
   have e2:us=[v']:=by
    rcases Vq with⟨h,_⟩|⟨_,h⟩
    ·rw[WB]at h;cases h
    ·exact h
   subst e1 e2;match cs,ds,h1,h2 with
   |[a],[b],h1,h2=> exact TJ ht (VV.2 0 _ _ rfl rfl) (XS.2 0 _ _ rfl rfl) (by simpa using h1) (by simpa using h2) (d+n)
  unfold tf at hk;split at hk
  ·rename_i k hu;exact leaf (.int k) hu (by simpa using hk.symm) (by simp[dI,hu])
  ·rename_i hu;exact leaf .str hu (by simpa using hk.symm) (by simp[dI,hu])
  ·rename_i hu;exact leaf .bool hu (by simpa using hk.symm) (by simp[dI,hu])
  ·rename_i fs hu;split at hk
   ·cases hk
   ·rename_i P';have WB:dI P t=some true:=by simp[dI,hu]
    have e1:v=.agg vs.toArray:=by
     rcases hv with⟨_,h⟩|⟨h,_⟩
     ·exact h
     ·rw[WB]at h;cases h
    have e2:v'=.agg us.toArray:=by
     rcases Vq with⟨_,h⟩|⟨h,_⟩
     ·exact h
     ·rw[WB]at h;cases h
    subst e1 e2;have hf:P.fieldsOf t=fs:=by simp[Program.fieldsOf,hu]
    rw[show d+(n+1)=(d+n)+1 from jB,run_equalIn_struct w (d+n) t _ _ (by rw[hf];exact hu) (by simpa using P'),hf];have gen:∀(l:List Field) (off:Nat) (ks:List LK),xK P (tf P n) off l=some ks->off<=cs.length->off<=ds.length->(cs.drop off).map kz=ks.map some->(ds.drop off).map kz=ks.map some->
      (Op.eqFields (d+n) vs.toArray us.toArray l).run P w=.ok (jr (cs.drop off) (ds.drop off)) w:=by
     intro l;induction l with
     |nil=>
      intro off ks hk _ _ g1 g2;simp only[xK,Option.some.injEq]at hk;subst hk;have c1:cs.drop off=[]:=by simpa using g1
      have c2:ds.drop off=[]:=by simpa using g2
      rw[c1,c2];simp[Op.eqFields,jr]
     |cons f l ihl=>
      intro off ks hk o1 o2 g1 g2;unfold xK at hk;split at hk
      ·rename_i U8;obtain⟨XC,rfl⟩:=U8;split at hk
       ·rename_i ks1 k e1 e2;split at hk
        ·rename_i Wy;simp only[Option.map_eq_some_iff]at hk;obtain⟨ks2,Vc,rfl⟩:=hk;have l1:=(CK g1).2;have l2:=(CK g2).2;have ag:(dI P f.type).isSome=true/\(dI P f.type=some false->k=1):=by
          cases n with
          |zero=>simp[tf]at e1
          |succ n=>
           unfold tf at e1;split at e1
           ·rename_i hu;refine⟨by simp[dI,hu],fun _=>?_⟩;cases e1;exact Wy.symm
           ·rename_i hu;refine⟨by simp[dI,hu],fun _=>?_⟩;cases e1;exact Wy.symm
           ·rename_i hu;refine⟨by simp[dI,hu],fun _=>?_⟩;cases e1;exact Wy.symm
           ·rename_i hu;exact⟨by simp[dI,hu],fun h=>by simp[dI,hu]at h⟩
           ·cases e1
         have Zn:=VV.1;have hul:=XS.1;simp only[List.length_drop,List.length_append]at l1 l2;obtain⟨x,hx,cx⟩:=Fs (P:=P) (w:=w) (xs:=vs.toArray) (off:=f.offset) ag.1 e2 ag.2 jF;obtain⟨y,hy,cy⟩:=Fs (P:=P) (w:=w) (xs:=us.toArray) (off:=f.offset) ag.1 e2 ag.2 jF;simp only[List.map_append]at g1 g2;have split1:∀{zs:List AV},(zs.drop f.offset).map kz=ks1.map some++ks2.map some->((zs.drop f.offset).take k).map kz=ks1.map some/\(zs.drop (f.offset+k)).map kz=ks2.map some:=by
          intro zs h;have e:k=(ks1.map some).length:=by simp[Wy]
          constructor
          ·rw[List.map_take,h,e,List.take_left'];rfl
          ·rw[<-List.drop_drop,List.map_drop,h,e,List.drop_left'];rfl
         obtain⟨a1,a2⟩:=split1 g1;obtain⟨b1,b2⟩:=split1 g2;have W6:=ih f.type ks1 e1 d x y _ _ _ _ cx cy (Kw (IL VV f.offset) k) (Kw (IL XS f.offset) k) a1 b1;have Vl:=ihl (f.offset+k) ks2 Vc jB jB a2 b2;have Z7:jr (cs.drop f.offset) (ds.drop f.offset)=(jr ((cs.drop f.offset).take k) ((ds.drop f.offset).take k) && jr (cs.drop (f.offset+k)) (ds.drop (f.offset+k))):=by rw[<-Jg (by rw[a1,b1]) (CK a1).1,<-List.drop_drop,<-List.drop_drop,List.take_append_drop,List.take_append_drop]
         simp only[Op.eqFields,ne_eq,XC,not_false_eq_true,if_true,Sem.run_bind,hx,hy,W6,Result.andThen_ok];rw[Z7];cases hb:jr ((cs.drop f.offset).take k) ((ds.drop f.offset).take k)
         ·simp
         ·simp only[Bool.not_true,Bool.false_eq_true,if_false,Bool.true_and];exact Vl
        ·cases hk
       ·cases hk
      ·cases hk
    have:=gen fs.toList 0 ks hk (Nat.zero_le _) (Nat.zero_le _) (by simpa using h1) (by simpa using h2);simpa using this
  ·cases hk
def P8{ne:Bool}{ds:List AV}{va vb:Value}{ks:List LK}{x y:Operand}(hk:zx P t=some ks)(WB:dI P t=some true)(h1:cs.map kz=ks.map some)(h2:ds.map kz=ks.map some)(ha:ax w (.agg cs) va)(hb:ax w (.agg ds) vb) :
  ∃v,(do eqGuard (if ne then .neq else .eql) t x y va vb;binOp (if ne then .neq else .eql) t va vb:Sem Value).run P w.toWorld=.ok v w.toWorld/\ax w (.raw (.bool (ne ^^ jr cs ds))) v:=by
 unfold zx at hk;split at hk
 ·cases hk
 ·rename_i hg;cases ha with|agg _ vs l1 r1=>
  cases hb with|agg _ us l2 r2=>
  have he:=Se (P:=P) (w:=w) 8 t ks hk 9992 (.agg vs) (.agg us) cs ds vs.toList us.toList (.inl ⟨WB,jE⟩) (.inl ⟨WB,jE⟩) ⟨by simpa using l1,fun i a v ha hv=>r1 i a v ha (by simpa using hv)⟩ ⟨by simpa using l2,fun i a v ha hv=>r2 i a v ha (by simpa using hv)⟩ h1 h2;have Ym:∀op,(eqGuard op t x y (.agg vs) (.agg us)).run P w.toWorld=.ok () w.toWorld:=fun op=>run_eqGuard_agg w op t x y vs us (by simpa using hg)
  have ZJ:(Op.equalIn 10000 t (.agg vs) (.agg us)).run P w.toWorld=.ok (jr cs ds) w.toWorld:=he;cases ne
  ·simp only[Bool.false_eq_true,if_false,Sem.run_bind,Ym,Result.andThen_ok,run_eql_struct,ZJ];exact⟨_,rfl,by simpa using ax.raw _⟩
  ·simp only[if_true,Sem.run_bind,Ym,Result.andThen_ok,run_neq_struct,ZJ];exact⟨_,rfl,by simpa using ax.raw _⟩
end
section
variable {P:Program}{w:NW}{H:Hp}
variable{a:AV}{v:Value}
def xo(h:ax w a v)(hp:(iT a).1=true):ax w (iT a).2 v:=by
 unfold iT at*;split
 ·cases h with|gd p a v hh hu=>exact hh hp
 ·exact h
variable{va vb:Value}
def Ft{c b:AV}{vc:Value}(hc:ax w c vc)(ha:ax w a va)(hb:ax w b vb):j7 P w (do pure (if<-asBool vc then va else vb)) (oa c a b):=by
 intro hq;unfold oa at*;split at hq
 ·rename_i cb pa x pb y e1 e2;have:=df hc;subst this;cases cb with
  |true=> have h:=xo ha (by rw[e1];exact hq.1 rfl);rw[e1]at h;have:=df h;subst this;exact⟨.bool x,by simp[asBool],by simpa[wR]using ax.raw _⟩
  |false=> have h:=xo hb (by rw[e2];exact hq.2 rfl);rw[e2]at h;have:=df h;subst this;exact⟨.bool y,by simp[asBool],by simpa[wR]using ax.raw _⟩
 ·unfold G4 at*;split at hq
  ·have:=df hc;subst this;exact⟨va,by simp[asBool],xo ha hq⟩
  ·have:=df hc;subst this;exact⟨vb,by simp[asBool],xo hb hq⟩
  ·exact hq.elim
def TL(op:BinOp)(t:TypeId)(k:IntKind)(a:Int)(k':IntKind)(b:Int)(x y:Operand):j7 P w (do eqGuard op t x y (.int k a) (.int k' b);binOp op t (.int k a) (.int k' b)) (yU op k a k' b):=by
 intro hq;cases op<;>simp only[yU]at hq ⊢
 case shl=> have h0:¬b<0:=jB;exact⟨_,by simp[eqGuard_at_int,binOp,Op.shift,h0],.raw _⟩
 case shr=> have h0:¬b<0:=jB;exact⟨_,by simp[eqGuard_at_int,binOp,Op.shift,h0],.raw _⟩
 case quo=>obtain⟨rfl,h0⟩:=hq;exact⟨_,by simp[eqGuard_at_int,binOp,Op.intDiv,h0],.raw _⟩
 case rem=>obtain⟨rfl,h0⟩:=hq;exact⟨_,by simp[eqGuard_at_int,binOp,Op.intDiv,h0],.raw _⟩
 case and=>subst hq;exact⟨_,by simp[eqGuard_at_int,binOp,Op.intBits,s9],.raw _⟩
 case or=>subst hq;exact⟨_,by simp[eqGuard_at_int,binOp,Op.intBits,s9],.raw _⟩
 case xor=>subst hq;exact⟨_,by simp[eqGuard_at_int,binOp,Op.intBits,s9],.raw _⟩
 case andNot=>subst hq;exact⟨_,by simp[eqGuard_at_int,binOp,Op.intBits,s9],.raw _⟩
 case eql=>subst hq;exact⟨.bool (decide (a=b)),by simp[eqGuard_at_int,binOp,Op.intCmp,Dm],.raw _⟩
 case neq=>subst hq;exact⟨.bool (!decide (a=b)),by simp[eqGuard_at_int,binOp,Op.intCmp,bne,Dm],.raw _⟩
 all_goals(subst hq;exact⟨_,by simp[eqGuard_at_int,binOp,Op.intArith,Op.intCmp];try rfl,.raw _⟩)
def Mc(op:BinOp)(t:TypeId)(a b:ByteArray)(x y:Operand):j7 P w (do eqGuard op t x y (.string a) (.string b);binOp op t (.string a) (.string b)) (yx op a b):=by
 intro hq;cases op<;>simp only[yx]at hq ⊢
 case add=>
  have h0:¬(((a.size+b.size:Nat):Int)>IntKind.i64.max):=by rw[IntKind.max_i64];omega
  exact⟨_,by simp only[eqGuard_at_string,binOp,Op.stringOp,pure_bind,if_neg h0,Sem.run_pure],.raw _⟩
 case eql=>exact⟨_,by simp[eqGuard_at_string,binOp,Op.stringOp,xD],.raw _⟩
 case neq=>exact⟨_,by simp[eqGuard_at_string,binOp,Op.stringOp,xD],.raw _⟩
 case lss=>exact⟨_,by simp[eqGuard_at_string,binOp,Op.stringOp],.raw _⟩
 case gtr=>exact⟨_,by simp[eqGuard_at_string,binOp,Op.stringOp,xD],.raw _⟩
 case leq=>exact⟨_,by simp[eqGuard_at_string,binOp,Op.stringOp,xD],.raw _⟩
 case geq=>exact⟨_,by simp[eqGuard_at_string,binOp,Op.stringOp],.raw _⟩
 all_goals exact hq.elim
variable{t:TypeId}
def Td{m:String}(h:(oA P t m).isSome=true)(v:Value)(W:World):(nilAhead (P.types.size+Made.depth) t v m).run P W=.ok (some false) W:=by
 obtain⟨f,h⟩:=Option.isSome_iff_exists.1 h;unfold oA at h;split at h;rotate_left
 ·cases h
 rename_i ti e ht hu;split at h;rotate_left
 ·cases h
 rename_i r hr;split at h;rotate_left
 ·cases h
 rename_i hp;split at h;rotate_left
 ·cases h
 rename_i g hf;cases h;have XR:r.path.toList=[]:=by have:=Array.isEmpty_iff.1 hp;rw[this]
 obtain⟨n,hn⟩:∃n,P.types.size+Made.depth=n+1:=⟨P.types.size+Made.depth-1,by have hd:=(by decide:Made.depth≠0);omega⟩;rw[hn];unfold nilAhead;simp only[Sem.run_bind,run_typeInfo W ht,Result.andThen_ok,hr,XR,followBlind,Sem.run_pure,hf]
def T5(x:Operand){ρ:Operand->Value}(hx:ρ x=v)(h:ax w a v)(o:Oper)(ho:o.op=.nilCheck x):(qZ P a).1->∃v',(execOp ρ o).run P w.toWorld=.ok (.value v') w.toWorld/\ax w (qZ P a).2 v':=by
 intro hq;unfold qZ at*;split at hq<;>try exact hq.elim
 ·cases h with
  |mv _ _ u h=>
   cases h with
   |iQ _ _ u h=> refine⟨_,?_,.mv _ _ _ (.iQ _ _ _ h)⟩;simp[execOp,ho,hx,Td hq]
 ·cases h with|ip _ ad vs hb hH D' hr=>exact⟨.pointer (some ad),by simp[execOp,ho,hx],.ip _ ad vs hb hH D' hr⟩
 ·cases h with|pt _ _ _ _ b t s hn=>exact⟨_,by simp[execOp,ho,hx],.pt _ _ _ _ b t s hn⟩
 all_goals(have:=df h;subst this;exact⟨_,by simp[execOp,ho,hx];try rfl,.raw _⟩)
def yV(h:sK P t=true):∃e,P.underlying t=some (.pointer e):=by unfold sK at h;split at h<;>simp_all
def TZ(h:xm P t=true):P.underlying t=some .bool:=by unfold xm at h;split at h<;>simp_all
def An(h:tz P t=true):P.underlying t=some .string:=by unfold tz at h;split at h<;>simp_all
def pA(h:ig P t=true):∃e,P.underlying t=some (.slice e):=by unfold ig at h;split at h<;>simp_all
def qO{x y:Value}{r:Bool}(h:∀d,(Op.equalIn (d+1) t x y).run P w.toWorld=.ok r w.toWorld):(Op.equal t x y).run P w.toWorld=.ok r w.toWorld:=h 9999
def rF{ne:Bool}{x y:Operand}{a b:Value}{r:Bool}(hg:∀op,eqGuard op t x y a b=pure ())(h1:binOp .eql t a b=(do pure (.bool (<-Op.equal t a b))))(h2:binOp .neq t a b=(do pure (.bool (!(<-Op.equal t a b)))))
  (he:(Op.equal t a b).run P w.toWorld=.ok r w.toWorld):∃v,(do eqGuard (if ne then .neq else .eql) t x y a b;binOp (if ne then .neq else .eql) t a b:Sem Value).run P w.toWorld=.ok v w.toWorld/\ax w (.raw (.bool (ne ^^ r))) v:=by
 cases ne
 ·simp only[Bool.false_eq_true,if_false,hg,h1,Sem.run_bind,he,Sem.run_pure,Result.andThen_ok];exact⟨_,rfl,by simpa using ax.raw _⟩
 ·simp only[if_true,hg,h2,Sem.run_bind,he,Sem.run_pure,Result.andThen_ok];exact⟨_,rfl,by simpa using ax.raw _⟩
def Et(ne:Bool)(t:TypeId){b:AV}(x y:Operand)(ha:ax w a va)(hb:ax w b vb) :
  j7 P w (do eqGuard (if ne then .neq else .eql) t x y va vb;binOp (if ne then .neq else .eql) t va vb) (wM P ne t a b):=by
 intro hq;unfold wM at*;split at hq<;>try exact hq.elim
 ·have:=df ha;have:=df hb;subst_vars
  have ht:=TZ hq;exact rF (fun op=>eqGuard_at_bool _ _ _ _ _ _) rfl rfl (qO (fun d=>by simp[Op.equalIn,run_underlying ht]))
 ·have:=df ha;have:=df hb;subst_vars
  obtain⟨e,ht⟩:=yV hq;exact rF (fun op=>eqGuard_at_pointer _ _ _ _ _ _) rfl rfl (qO (fun d=>by simp[Op.equalIn,run_underlying ht]))
 ·have:=df ha;have:=df hb;subst_vars
  obtain⟨e,ht⟩:=yV hq;rename_i pa;have:=rF (P:=P) (w:=w) (ne:=ne) (t:=t) (x:=x) (y:=y) (a:=.pointer (some pa)) (b:=.pointer none) (r:=false) (fun op=>eqGuard_at_pointer _ _ _ _ _ _) rfl rfl (qO (fun d=>by simp[Op.equalIn,run_underlying ht]));simpa using this
 ·have:=df hb;subst_vars
  obtain⟨e,ht⟩:=yV hq;cases ha with|ip cs ad vs _ _ _ _=>
  have:=rF (P:=P) (w:=w) (ne:=ne) (t:=t) (x:=x) (y:=y) (a:=.pointer (some ad)) (b:=.pointer none) (r:=false) (fun op=>eqGuard_at_pointer _ _ _ _ _ _) rfl rfl (qO (fun d=>by simp[Op.equalIn,run_underlying ht]));simpa using this
 ·have:=df hb;subst_vars
  obtain⟨e,ht⟩:=yV hq;rename_i i m k j;cases ha with|pt _ _ _ _ bb tt ss _=>
  have:=rF (P:=P) (w:=w) (ne:=ne) (t:=t) (x:=x) (y:=y) (a:=.pointer (some ⟨bb,k*ss+j,none⟩)) (b:=.pointer none) (r:=false) (fun op=>eqGuard_at_pointer _ _ _ _ _ _) rfl rfl (qO (fun d=>by simp[Op.equalIn,run_underlying ht]));simpa using this
 ·have:=df ha;have:=df hb;subst_vars
  obtain⟨e,ht⟩:=pA hq;exact rF (fun op=>eqGuard_at_slice _ _ _ _ _ _ _ _) rfl rfl (qO (fun d=>by simp[Op.equalIn,run_underlying ht]))
 ·have:=df ha;have:=df hb;subst_vars
  obtain⟨e,ht⟩:=pA hq;rename_i pa n c m d;have:=rF (P:=P) (w:=w) (ne:=ne) (t:=t) (x:=x) (y:=y) (a:=.slice (some pa) n c) (b:=.slice none m d) (r:=false) (fun op=>eqGuard_at_slice _ _ _ _ _ _ _ _) rfl rfl (qO (fun d=>by simp[Op.equalIn,run_underlying ht]));simpa using this
 ·have:=df hb;subst_vars
  obtain⟨hq,VM⟩:=hq;obtain⟨e,ht⟩:=pA hq;rename_i css _ m d;cases ha with
  |gz=>exact(VM rfl).elim
  |sl _ _ _ a c vs _ _ _ _ _ _ _ _=> have:=rF (P:=P) (w:=w) (ne:=ne) (t:=t) (x:=x) (y:=y) (a:=.slice (some a) css.length c) (b:=.slice none m d) (r:=false) (fun op=>eqGuard_at_slice _ _ _ _ _ _ _ _) rfl rfl (qO (fun d=>by simp[Op.equalIn,run_underlying ht]));simpa using this
 ·split at hq
  ·rename_i ks hks;exact P8 hks hq.1 hq.2.1 hq.2.2 ha hb
  ·exact hq.elim
def FV(op:BinOp)(t:TypeId){b:AV}(x y:Operand)(ha:ax w a va)(hb:ax w b vb) :
  j7 P w (do eqGuard op t x y va vb;binOp op t va vb) (fI P op t a b):=by
 unfold fI;split
 ·have:=df ha;have:=df hb;subst_vars;exact TL op t _ _ _ _ x y
 ·have:=df ha;have:=df hb;subst_vars;exact Mc op t _ _ x y
 ·split
  ·exact Et false t x y ha hb
  ·exact Et true t x y ha hb
  ·exact Hs
def Q7(op:UnOp)(h:ax w a v):j7 P w (Op.unary op v) (tD op a):=by
 intro hq;unfold tD at*;split at hq<;>try exact hq.elim
 ·have:=df h;subst this;exact⟨_,by simp[Op.unary],.raw _⟩
 ·have:=df h;subst this;exact⟨_,by simp[Op.unary,Op.intArith],.raw _⟩
def MD(t:TypeId)(h:ax w a v)(hw:aJ w H):j7 P w (Instr.loadAt t v) (py P H t a):=by
 intro hq;unfold py at*;split at hq<;>try exact hq.elim
 ·rename_i c cs k e1 e2 e3;exact G6 h hw e1 hq.1 e2 e3 hq.2.1 hq.2.2
 ·rename_i c cs k e1 e2 e3;have:=G6 (P:=P) h hw e1 hq.1 e2 e3 hq.2.1 hq.2.2;simpa[uv]using this
def Jh{f off:Nat}(h:cH P t f=some off):∃fs fd k,P.underlying t=some (.struct fs)/\fs[f]?=some fd/\dh P fd.type=some (k+1)/\fd.offset=off:=by
 unfold cH at h;split at h
 ·rename_i fs hu;split at h
  ·rename_i fd hf;split at h
   ·rename_i k hk;exact⟨fs,fd,k,hu,hf,hk,by simpa using h⟩
   ·cases h
  ·cases h
 ·cases h
def Ox(t:TypeId)(f:Nat)(h:ax w a v):j7 P w (Instr.fieldAt t v f) (sN P t a f):=by
 intro hq;unfold sN at*;split at hq<;>try exact hq.elim
 ·rename_i cs off e;obtain⟨fs,fd,k,hu,hf,hk,rfl⟩:=Jh e;cases h with|ip _ ad vs hb hH D' hr=>
  refine⟨.pointer (some (ad.add fd.offset)),?_,.ip _ _ (fun j=>vs (fd.offset+j)) (by rw[qh];exact hb) (by rw[qh];exact hH) (fun j hj=>?_) (fun j u hu=>?_)⟩
  ·simp[Instr.fieldAt,run_underlying hu,hf,Instr.sureAddr,fieldPlace,lV hk]
  ·rw[xc];exact D' _ (by simp at hj;omega)
  ·rw[List.getElem?_drop]at hu;exact hr _ _ hu
 ·rename_i i m q j off e;obtain⟨fs,fd,k,hu,hf,hk,rfl⟩:=Jh e;cases h with|pt _ _ _ _ b t s hn=>
  refine⟨.pointer (some ⟨b,q*s+j+fd.offset,none⟩),?_,?_⟩
  ·simp[Instr.fieldAt,run_underlying hu,hf,Instr.sureAddr,fieldPlace,lV hk,ju]
  ·rw[Nat.add_assoc];exact .pt i m q (j+fd.offset) b t s hn
def Qb{ft:TypeId}{f off:Nat}(h:wC P t f=some (ft,off)):∃fs fd,P.underlying t=some (.struct fs)/\fs[f]?=some fd/\fd.type=ft/\fd.offset=off:=by
 unfold wC at h;split at h
 ·rename_i fs hu;simp only[Option.map_eq_some_iff,Prod.mk.injEq]at h;obtain⟨fd,hf,h1,h2⟩:=h;exact⟨fs,fd,hu,hf,h1,h2⟩
 ·cases h
def Sy(t:TypeId){cs:List AV}{vs:Array Value}(hl:cs.length=vs.size)(hr:∀(i:Nat) a v,cs[i]?=some a->vs[i]?=some v->ax w a v)(off:Nat):j7 P w (part t vs off) (zm P t cs off):=by
 intro hq;unfold zm at*;split at hq<;>try exact hq.elim
 ·rename_i k e1 e2;simp only at hq;refine⟨.agg (vs.extract off (off+k)),by simp[part,wT e1,lV e2],.agg _ _ jF fun i a v ha hv=>?_⟩;rw[List.getElem?_take]at ha;split at ha
  ·rw[List.getElem?_drop]at ha;refine hr _ a v ha ?_;rw[Array.getElem?_extract]at hv;split at hv<;>simp_all
  ·cases ha
 ·rename_i k e1 e2;simp only at hq;have h1:vs[off]?=some (vs[off]' jB):=Array.getElem?_eq_getElem jB;refine⟨vs[off]' jB,by simp[part,wT e1,h1],hr off _ _ ?_ h1⟩;simp[List.getElem?_eq_getElem hq]
def KV(t:TypeId)(f:Nat)(h:ax w a v):j7 P w (Instr.field t v f) (uZ P t a f):=by
 unfold uZ;split
 ·rename_i cs ft off e;obtain⟨fs,fd,hu,hf,rfl,rfl⟩:=Qb e;cases h with|agg _ vs hl hr=> intro hq;obtain⟨v,h1,h2⟩:=Sy (P:=P) fd.type hl hr fd.offset hq;exact⟨v,by simpa[Instr.field,run_underlying hu,hf,asAgg]using h1,h2⟩
 ·exact Hs
def o8{k:Nat}(h:iC P t=some k):∃e,P.underlying t=some (.slice e)/\dh P e=some k:=by
 unfold iC iu at h;split at h
 ·rename_i e hu;exact⟨e,hu,by simpa using h⟩
 ·cases h
def Ji{n k:Nat}(h:z7 P t=some (n,k)):∃e,P.underlying t=some (.array n e)/\dh P e=some k:=by
 unfold z7 at h;split at h
 ·rename_i len e hu;simp only[Option.map_eq_some_iff,Prod.mk.injEq]at h;obtain⟨s,h1,rfl,rfl⟩:=h;exact⟨e,hu,h1⟩
 ·cases h
def PQ(t:TypeId){i:AV}{vi:Value}(ha:ax w a va)(hi:ax w i vi):j7 P w (Instr.indexAt t va vi) (tx P t a i):=by
 intro hq;unfold tx at*;split at hq<;>try exact hq.elim
 ·rename_i x sz css d k j;have:=df hi;subst this;obtain⟨e,hu,hs⟩:=o8 hq.1;have h0:=hq.2.1;have h1:=hq.2.2;cases ha with
  |gz=>simp at h1;omega
  |sl _ _ _ ad c vs hn hc hx U' hb hH D' hr=>
   have VU:=ve U' (show j.toNat<css.length from jB);have hd:css.getD j.toNat d=css.getD j.toNat []:=by simp[show j.toNat<css.length from jB]
   rw[hd];refine⟨.pointer (some (ad.add (j.toNat*sz))),?_,.ip _ _ (fun m=>vs (j.toNat*sz+m)) (by rw[qh];exact hb) (by rw[qh];exact hH) (fun m hm=>?_) (fun m u hu=>?_)⟩
   ·simp[Instr.indexAt,asIntOf,run_underlying hu,h0,h1,lV hs]
   ·rw[xc];exact D' _ m jB jB
   ·exact hr _ m u jB hu
 ·rename_i d m sz n k j;have:=df hi;subst this;obtain⟨e,hu,hs⟩:=o8 hq.1;have h0:=hq.2.1;have h1:=hq.2.2;cases ha with
  |iN=>simp at h1;omega
  |rs _ _ _ _ b t c hn hc U6 Wp=> refine⟨.pointer (some ⟨b,j.toNat*sz,none⟩),?_,.pt d m j.toNat 0 b t sz hn⟩;simp[Instr.indexAt,asIntOf,run_underlying hu,h0,h1,lV hs,ju]
 ·rename_i d m sz n k j;have:=df hi;subst this;obtain⟨e,hu,hs⟩:=o8 hq.1;have h0:=hq.2.1;have h1:=hq.2.2;cases ha with
  |rc _ _ _ _ b t hn hc U6 Wp=> refine⟨.pointer (some ⟨b,j.toNat*sz,none⟩),?_,.pt d m j.toNat 0 b t sz hn⟩;simp[Instr.indexAt,asIntOf,run_underlying hu,h0,h1,lV hs,ju]
 ·rename_i d m sz o n k j;have:=df hi;subst this;obtain⟨e,hu,hs⟩:=o8 hq.1;have h0:=hq.2.1;have h1:=hq.2.2;cases ha with
  |jx=>simp at h1;omega
  |rv _ _ _ _ _ b t c hn U6=> refine⟨.pointer (some ⟨b,(o+j.toNat)*sz,none⟩),?_,.pt d m (o+j.toNat) 0 b t sz hn⟩;simp[Instr.indexAt,asIntOf,run_underlying hu,h0,h1,lV hs,ju,Nat.add_mul]
 ·rename_i d m k j kk i;have:=df hi;subst this;unfold yP at*;split at hq
  ·rename_i len s e;obtain⟨el,hu,hs⟩:=Ji e;cases ha with
   |pt _ _ _ _ b t sz hn=> refine⟨.pointer (some ⟨b,k*sz+(j+i.toNat*s),none⟩),?_,.pt d m k _ b t sz hn⟩;simp[Instr.indexAt,asIntOf,run_underlying hu,hq.1,hq.2,lV hs,ju,Instr.sureAddr,Nat.add_assoc]
  ·exact hq.elim
 ·rename_i cs kk i;have:=df hi;subst this;unfold yP at*;split at hq
  ·rename_i len s e;obtain⟨el,hu,hs⟩:=Ji e;cases ha with
   |ip _ ad vs hb hH D' hr=>
    refine⟨.pointer (some (ad.add (i.toNat*s))),?_,.ip _ _ (fun m=>vs (i.toNat*s+m)) (by rw[qh];exact hb) (by rw[qh];exact hH) (fun m hm=>?_) (fun m u hu=>?_)⟩
    ·simp[Instr.indexAt,asIntOf,run_underlying hu,hq.1,hq.2,lV hs,Instr.sureAddr]
    ·rw[xc];exact D' _ (by simp at hm;omega)
    ·exact hr _ u (by rwa [List.getElem?_drop]at hu)
  ·exact hq.elim
def ME(t:TypeId){i:AV}{vi:Value}(ha:ax w a va)(hi:ax w i vi):j7 P w (Instr.index t va vi) (tu P t a i):=by
 intro hq;unfold tu at*;split at hq<;>try exact hq.elim
 rename_i s k j;have:=df hi;have:=df ha;subst_vars
 have ht:=An hq.1;have h0:=hq.2.1;have h1:j.toNat<s.size:=by have:=hq.2.2;omega
 refine⟨.int .u8 (eT s j),?_,.raw _⟩;have h2:s[j.toNat]?=some s[j.toNat]:=by simp[h1]
 have h3:eT s j=(s[j.toNat].toNat:Int):=by have h4:s.data[j.toNat]?=some s[j.toNat]:=Array.getElem?_eq_getElem h1;simp only[eT,h4,Option.getD_some]
 simp[Instr.index,asIntOf,run_underlying ht,h0,h2,h3]
def M1(h:ax w a v)(i:Nat):j7 P w (Instr.extract v i) (v6 a i):=by
 intro hq;unfold v6 at*;split at hq<;>try exact hq.elim
 rename_i cs;cases h with|aQ _ vs hl hr=>
 simp only at hq;have h1:vs[i]?=some (vs[i]' jB):=Array.getElem?_eq_getElem jB;refine⟨vs[i]' jB,by simp[Instr.extract,h1],hr i _ _ ?_ h1⟩;simp[List.getElem?_eq_getElem hq]
def L6(fn:Fn){a b:List AV}{va vb:List Value}(ha:ci w a va)(hb:ci w b vb):j7 P w (Instr.makeFunc fn va.toArray vb.toArray) (ww fn a b):=by
 intro hq;unfold ww at*;split at hq<;>try exact hq.elim
 ·rename_i f;have:va=[]:=by have:=ha.1;simpa using this.symm
  subst this;exact⟨.func (.func f) #[] vb.toArray,by simp[Instr.makeFunc],.dW f _ _ (by rw[hb.1];simp) (fun i a v h1 h2=>hb.2 i a v h1 (by simpa using h2))⟩
 ·rename_i f x l;have hq:b=[]:=hq;subst hq;have:vb=[]:=by have:=hb.1;simpa using this.symm
  subst this;exact⟨.func (.func f) va.toArray #[],by simp[Instr.makeFunc],.bd f _ _ (by rw[ha.1];simp) (fun i a v h1 h2=>ha.2 i a v h1 (by simpa using h2))⟩
 ·rename_i m x;have hq:b=[]:=hq;subst hq;have:vb=[]:=by have:=hb.1;simpa using this.symm
  subst this;obtain⟨u,rfl⟩:∃u,va=[u]:=by
   have:=ha.1;match va,this with
   |[u],_=>exact⟨u,rfl⟩
  exact⟨.func (.method m) #[u] #[],by simp[Instr.makeFunc],.mv m _ _ (ha.2 0 _ _ rfl rfl)⟩
def Le(t:TypeId)(h:ax w a v):j7 P w (Instr.makeInterface t v) (vD P t a):=by
 intro hq;unfold vD at*;split at hq<;>try exact hq.elim
 ·rename_i u d e1 e2;have:=df h;subst this;refine⟨.iface t v,?_,.raw _⟩;simp only[Instr.makeInterface,Sem.run_bind,run_underlying e2,Result.andThen_ok];cases d<;>first|rfl|(simp[yG,e2]at e1)
 ·rename_i d _ e1 hu;refine⟨.iface t v,?_,.iQ t _ v h⟩;simp only[Instr.makeInterface,Sem.run_bind,run_underlying hu,Result.andThen_ok];cases d<;>first|rfl|(simp[yG,hu]at e1)
def ML(h:wK P t=true):∃k e,P.underlying t=some (.map k e):=by
 unfold wK at h;split at h
 ·exact⟨_,_,by assumption⟩
 ·cases h
theorem Ka:∀(n:Nat) (ks vs:List Value),(iV n ks vs).length=min ks.length vs.length
 |n,[],vs=>by simp[iV]
 |n,k::ks,[]=>by simp[iV]
 |n,k::ks,v::vs=>by simp[iV,Ka (n+1) ks vs]
def OD(ty t:TypeId)(ts:List TypeId)(vs:List Value)(hw:aJ w H)(h:ax w a v):j7 P w (Builtin.len_ (t::ts).toArray ty (v::vs).toArray) (uK P H t a):=by
 intro hq;unfold uK at*;split at hq<;>try exact hq.elim
 ·split at hq<;>try exact hq.elim
  rename_i hm;rw[if_pos hm];split at hq<;>try exact hq.elim
  rename_i ks vs hi;obtain⟨k,e,ht⟩:=ML hq;cases h with
  |mr _ b t' s hn=>
   obtain⟨hok,z,hz,Vg⟩:=hw.rows _ _ hi;have:z=.at b t' s:=by have hz:w.nm _ 0=some z:=hz;rw[hn]at hz;cases hz;rfl
   subst this;obtain⟨_,cur,hh,VB,_⟩:=Vg;have hh:w.heap[b]?=some (.map (iV 0 ks cur.toList).toArray ks.length):=hh;have VB:cur.size=vs.length:=VB;have hok:ks.length=vs.length:=hok;refine⟨_,?_,.raw _⟩;simp[Builtin.len_,run_underlying ht,MapKept.run_getObj_map hh,goInt,Ka,hok,VB]
 ·obtain⟨e,ht⟩:=pA hq;cases h<;>exact⟨_,by simp[Builtin.len_,run_underlying ht,goInt];try rfl,.raw _⟩
 ·obtain⟨e,ht⟩:=pA hq;cases h<;>exact⟨_,by simp[Builtin.len_,run_underlying ht,goInt];try rfl,.raw _⟩
 ·obtain⟨e,ht⟩:=pA hq;cases h<;>exact⟨_,by simp[Builtin.len_,run_underlying ht,goInt];try rfl,.raw _⟩
 ·obtain⟨e,ht⟩:=pA hq;cases h<;>exact⟨_,by simp[Builtin.len_,run_underlying ht,goInt];try rfl,.raw _⟩
 ·obtain⟨e,ht⟩:=pA hq;have:=df h;subst this;exact⟨_,by simp[Builtin.len_,run_underlying ht,goInt],.raw _⟩
 ·have ht:=An hq;have:=df h;subst this;exact⟨_,by simp[Builtin.len_,run_underlying ht,goInt],.raw _⟩
def OA(ty t:TypeId)(ts:List TypeId)(vs:List Value)(h:ax w a v):j7 P w (Builtin.cap_ (t::ts).toArray ty (v::vs).toArray) (yA P t a):=by
 intro hq;unfold yA at*;split at hq<;>try exact hq.elim
 ·obtain⟨e,ht⟩:=pA hq;cases h with
  |gz _ _ _ c hx=>have:=hx rfl;subst this;exact⟨_,by simp[Builtin.cap_,run_underlying ht,goInt],.raw _⟩
  |sl _ _ _ _ c _ _ _ hx=>have:=(hx rfl).1;subst this;exact⟨_,by simp[Builtin.cap_,run_underlying ht,goInt],.raw _⟩
 ·obtain⟨e,ht⟩:=pA hq;cases h;exact⟨_,by simp[Builtin.cap_,run_underlying ht,goInt],.raw _⟩
 ·obtain⟨e,ht⟩:=pA hq;have:=df h;subst this;exact⟨_,by simp[Builtin.cap_,run_underlying ht,goInt],.raw _⟩
end
end Go.Gd
namespace Go.Gd
open Go
abbrev UI:=List AV->Hp->Prop
abbrev UJ:=AV->Hp->Prop
abbrev UK:=List (List AV)
abbrev UL:=List (Nat×Row)
abbrev UM:=List AV
abbrev UO:=List (List Int)
abbrev UP:=List Int
abbrev UQ:=List Nat
abbrev UR:=ByteArray
abbrev US:=TypeId
abbrev UT:=Operand->AV
abbrev UU:=Array Value
abbrev UW:=List Value
abbrev UX:=Nat->Bool
abbrev UY:=Program
abbrev UZ:=Nat->Row
abbrev U0:=Nat×Row
end Go.Gd

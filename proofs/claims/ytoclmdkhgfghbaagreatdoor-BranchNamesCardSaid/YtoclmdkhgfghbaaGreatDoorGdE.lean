/- Package-level variables that are known. Abstract states with names: things of one's own have numbers, and where they lie is hidden. The rules of the walks jcr abstract states: code, loops, calls. What single operations make of abstract values: loads, stores, addresses, numbers, texts. Quiet operations: what each asks and gives, as a pair reckoned from abstract operands, and that it is so. Structs of numbers, texts and bools held against each other. That quiet operations give what is reckoned of them. No conditions. -/
import Derived.Tactics
import Derived.Below
import Derived.Laws.AppendOwn
import Derived.Laws.Cells
import Derived.Deep.LoopGhost
import Derived.Orders
import Derived.Scope
import Derived.Laws.Slices
import Derived.WalkKit
import Derived.Laws.StructEq
set_option linter.all false
namespace Go.Gd
open Go
def jmx:List (Nat×List Value):=[]
def mapTs:List Nat:=[94,231]
inductive AV where
 | raw (v:Value)
 | any
 | agg (cs:List AV)
 | tup (vs:List AV)
 | sl (x:Bool) (sz:Nat) (css:List (List AV)) (d:List AV)
 | ip (cs:List AV)
 | gd (p:Bool) (v:AV)
 | clo (f:FuncId) (cs:List AV)
 | pt (i m k j:Nat)
 | rs (i m sz n:Nat)
 | rc (i m sz n:Nat)
 | rv (i m sz o n:Nat)
 | mr (i:Nat)
 | bd (f:FuncId) (fs:List AV)
 | ifc (t:TypeId) (v:AV)
 | mv (m:String) (v:AV)
instance:Inhabited AV:=⟨.any⟩
mutual
def AV.all (q:Nat→Bool):AV→Bool
 | .agg cs=>jaV q cs
 | .tup cs=>jaV q cs
 | .clo _ cs=>jaV q cs
 | .bd _ fs=>jaV q fs
 | .ifc _ v=>v.all q
 | .mv _ v=>v.all q
 | .gd _ v=>v.all q
 | .pt i _ _ _=>q i
 | .rs i _ _ _=>q i
 | .rc i _ _ _=>q i
 | .rv i _ _ _ _=>q i
 | .mr i=>q i
 | .raw _=>true
 | .any=>true
 | .sl _ _ _ _=>true
 | .ip _=>true
def jaV (q:Nat→Bool):List AV→Bool
 | []=>true
 | a::l=>a.all q && jaV q l
end
theorem jaz {q:Nat→Bool}:∀ {l:List AV},jaV q l=true→∀ {i:Nat} {a:AV},l[i]?=some a→a.all q=true
 | [],_,i,a,h=>by simp at h
 | x::l,hl,i,a,h=>by
  simp only [jaV,Bool.and_eq_true] at hl
  cases i with
  | zero=>simp at h;subst h;exact hl.1
  | succ i=>exact jaz hl.2 (by simpa using h)
mutual
theorem jbG {q p:Nat→Bool} (hq:∀ i,q i=true→p i=true):∀ a:AV,a.all q=true→a.all p=true
 | .agg cs,h=>by simp only [AV.all] at h ⊢;exact jbb hq cs h
 | .tup cs,h=>by simp only [AV.all] at h ⊢;exact jbb hq cs h
 | .clo _ cs,h=>by simp only [AV.all] at h ⊢;exact jbb hq cs h
 | .bd _ fs,h=>by simp only [AV.all] at h ⊢;exact jbb hq fs h
 | .ifc _ v,h=>by simp only [AV.all] at h ⊢;exact jbG hq v h
 | .mv _ v,h=>by simp only [AV.all] at h ⊢;exact jbG hq v h
 | .gd _ v,h=>by simp only [AV.all] at h ⊢;exact jbG hq v h
 | .pt i _ _ _,h=>hq i (by simpa only [AV.all] using h)
 | .rs i _ _ _,h=>hq i (by simpa only [AV.all] using h)
 | .rc i _ _ _,h=>hq i (by simpa only [AV.all] using h)
 | .rv i _ _ _ _,h=>hq i (by simpa only [AV.all] using h)
 | .mr i,h=>hq i (by simpa only [AV.all] using h)
 | .raw _,_=>by simp only [AV.all]
 | .any,_=>by simp only [AV.all]
 | .sl _ _ _ _,_=>by simp only [AV.all]
 | .ip _,_=>by simp only [AV.all]
theorem jbb {q p:Nat→Bool} (hq:∀ i,q i=true→p i=true):∀ l:List AV,jaV q l=true→jaV p l=true
 | [],_=>rfl
 | a::l,h=>by
  simp only [jaV,Bool.and_eq_true] at h ⊢
  exact ⟨jbG hq a h.1,jbb hq l h.2⟩
end
mutual
theorem jaC:∀ a:AV,a.all (fun _=>true)=true
 | .agg cs=>by simp only [AV.all];exact jbv cs
 | .tup cs=>by simp only [AV.all];exact jbv cs
 | .clo _ cs=>by simp only [AV.all];exact jbv cs
 | .bd _ fs=>by simp only [AV.all];exact jbv fs
 | .ifc _ v=>by simp only [AV.all];exact jaC v
 | .mv _ v=>by simp only [AV.all];exact jaC v
 | .gd _ v=>by simp only [AV.all];exact jaC v
 | .pt i _ _ _=>by simp only [AV.all]
 | .rs i _ _ _=>by simp only [AV.all]
 | .rc i _ _ _=>by simp only [AV.all]
 | .rv i _ _ _ _=>by simp only [AV.all]
 | .mr i=>by simp only [AV.all]
 | .raw _=>by simp only [AV.all]
 | .any=>by simp only [AV.all]
 | .sl _ _ _ _=>by simp only [AV.all]
 | .ip _=>by simp only [AV.all]
theorem jbv:∀ l:List AV,jaV (fun _=>true) l=true
 | []=>rfl
 | a::l=>by
  simp only [jaV,Bool.and_eq_true]
  exact ⟨jaC a,jbv l⟩
end
inductive Row where
 | var (t:TypeId) (cs:List AV)
 | vec (e:TypeId) (sz:Nat) (css:List (List AV))
 | mp (ks:List Value) (vs:List AV)
def Row.ver:Row→Nat
 | .var _ _=>0
 | .vec _ _ css=>css.length
 | .mp _ _=>0
def Row.elem:Row→TypeId
 | .var t _=>t
 | .vec e _ _=>e
 | .mp _ _=>0
def Row.stride:Row→Nat
 | .var _ _=>0
 | .vec _ sz _=>sz
 | .mp _ _=>0
def Row.cells:Row→List AV
 | .var _ cs=>cs
 | .vec _ _ css=>css.flatten
 | .mp _ vs=>vs
def Row.ok:Row→Prop
 | .var _ _=>True
 | .vec _ sz css=>0 < sz∧∀ cs∈css,cs.length=sz
 | .mp ks vs=>ks.length=vs.length
def jco:Nat→List Value→List Value→List MapEntry
 | n,k::ks,v::vs=>⟨k,v,n⟩::jco (n+1) ks vs
 | _,_,_=>[]
def Row.obj (r:Row) (cur:Array Value):Obj:=match r with
 | .mp ks _=>.map (jco 0 ks cur.toList).toArray ks.length
 | .var t _=>.cells cur t (0,0)
 | .vec e _ _=>.cells cur e (0,0)
def Row.fit (r:Row) (n t:Nat):Prop:=match r with
 | .mp _ vs=>n=vs.length
 | .var ty cs=>n=t∧(Row.var ty cs).cells.length≤t
 | .vec e sz css=>n=t∧(Row.vec e sz css).cells.length≤t
def Row.isC:Row→Bool
 | .mp _ _=>false
 | _=>true
theorem Row.obj_c {r:Row} (h:r.isC=true) (cur:Array Value):r.obj cur=.cells cur r.elem (0,0):=by
 cases r with
 | var t cs=>rfl
 | vec e sz css=>rfl
 | mp ks vs=>cases h
theorem Row.fit_c {r:Row} (h:r.isC=true) (n t:Nat):r.fit n t=(n=t∧r.cells.length≤t):=by
 cases r with
 | var t cs=>rfl
 | vec e sz css=>rfl
 | mp ks vs=>cases h
structure Hp where
 B:List Nat
 l:List (Nat×Row)
def jaQ:List (Nat×Row)→Nat→Option Row
 | [],_=>none
 | (j,r)::l,i=>if i=j then some r else jaQ l i
def jju:List (Nat×Row)→Nat→Row→List (Nat×Row)
 | [],i,r=>[(i,r)]
 | (j,s)::l,i,r=>if i=j then (i,r)::l else (j,s)::jju l i r
def jlN:List (Nat×Row)→Nat→List (Nat×Row)
 | [],_=>[]
 | (j,s)::l,i=>if i=j then jlN l i else (j,s)::jlN l i
def Hp.get (H:Hp) (i:Nat):Option Row:=jaQ H.l i
def Hp.put (H:Hp) (i:Nat) (r:Row):Hp:=⟨H.B,jju H.l i r⟩
theorem jc9:∀ (l:List (Nat×Row)) (i j:Nat) (r:Row),jaQ (jju l i r) j=if j=i then some r else jaQ l j
 | [],i,j,r=>by simp [jju,jaQ]
 | (k,s)::l,i,j,r=>by
  unfold jju
  split
  ·rename_i h;subst h
   simp only [jaQ]
   split<;>rfl
  ·rename_i h
   simp only [jaQ]
   split
   ·rename_i h2;subst h2
    rw [if_neg (fun e=>h e.symm)]
   ·exact jc9 l i j r
theorem Hp.get_put (H:Hp) (i j:Nat) (r:Row):(H.put i r).get j=if j=i then some r else H.get j:=jc9 _ _ _ _
inductive Rz where
 | nil
 | at (b t s:Nat)
structure NW extends World where
 O:Nat→Prop
 nm:Nat→Nat→Option Rz
instance:Coe NW World:=⟨NW.toWorld⟩
@[reducible] def NW.bare (w:NW):NW:={ w with nm:=fun _ _=>none }
def jmc (w:World) (b:Nat):Prop:=∃ cur el,w.heap[b]?=some (.cells cur el (0,0))
inductive RelV:NW→AV→Value→Prop
 | raw {w:NW} (v:Value):RelV w (.raw v) v
 | any {w:NW} (v:Value):RelV w .any v
 | agg {w:NW} (cs:List AV) (vs:Array Value) (hl:cs.length=vs.size) (h:∀ (i:Nat) a v,cs[i]?=some a→vs[i]?=some v→RelV w a v):RelV w (.agg cs) (.agg vs)
 | tup {w:NW} (cs:List AV) (vs:Array Value) (hl:cs.length=vs.size) (h:∀ (i:Nat) a v,cs[i]?=some a→vs[i]?=some v→RelV w a v):RelV w (.tup cs) (.tuple vs)
 | sl0 {w:NW} {d:List AV} (x:Bool) (sz:Nat) (A:Option Addr) (c:Nat) (hx:x=true→c=0):RelV w (.sl x sz [] d) (.slice A 0 c)
 | sl {w:NW} {d:List AV} (x:Bool) (sz:Nat) (css:List (List AV)) (a:Addr) (c:Nat) (vs:Nat→Value) (hn:0 < css.length) (hc:css.length≤c) (hx:x=true→c=css.length∧jmc w a.block) (hsz:∀ cs∈css,cs.length=sz)
   (hb:a.block < w.heap.size) (hH:¬ w.O a.block) (hcell:∀ i j,i < css.length→j < sz→w.cell? (a.add (i * sz+j))=some (vs (i * sz+j)))
   (h:∀ i (j:Nat) u,i < css.length→(css.getD i [])[j]?=some u→RelV w.bare u (vs (i * sz+j))):RelV w (.sl x sz css d) (.slice (some a) css.length c)
 | ip {w:NW} (cs:List AV) (a:Addr) (vs:Nat→Value) (hb:a.block < w.heap.size) (hH:¬ w.O a.block) (hcell:∀ j,j < cs.length→w.cell? (a.add j)=some (vs j))
   (h:∀ (j:Nat) u,cs[j]?=some u→RelV w.bare u (vs j)):RelV w (.ip cs) (.pointer (some a))
 | gd {w:NW} (p:Bool) (a:AV) (v:Value) (h:p=true→RelV w a v) (hu:p=false→v=undef):RelV w (.gd p a) v
 | clo {w:NW} (f:FuncId) (cs:List AV) (vs:Array Value) (hl:cs.length=vs.size) (h:∀ (i:Nat) a v,cs[i]?=some a→vs[i]?=some v→RelV w a v):RelV w (.clo f cs) (.func (.func f) #[] vs)
 | pt {w:NW} (i m k j b t s:Nat) (h:w.nm i m=some (.at b t s)):RelV w (.pt i m k j) (.pointer (some ⟨b,k * s+j,none⟩))
 | rs0 {w:NW} (i m sz:Nat) (A:Option Addr) (h:w.nm i m=some .nil):RelV w (.rs i m sz 0) (.slice A 0 0)
 | rs {w:NW} (i m sz n b t c:Nat) (h:w.nm i m=some (.at b t sz)) (hc:c * sz=t) (hn:n≤c) (hs:0 < sz):RelV w (.rs i m sz n) (.slice (some ⟨b,0,none⟩) n c)
 | rc {w:NW} (i m sz n b t:Nat) (h:w.nm i m=some (.at b t sz)) (hc:m * sz=t) (hn:n≤m) (hs:0 < sz):RelV w (.rc i m sz n) (.slice (some ⟨b,0,none⟩) n m)
 | rv0 {w:NW} (i m sz o c:Nat) (A:Option Addr):RelV w (.rv i m sz o 0) (.slice A 0 c)
 | rv {w:NW} (i m sz o n b t c:Nat) (h:w.nm i m=some (.at b t sz)) (hn:n≤c):RelV w (.rv i m sz o n) (.slice (some ⟨b,o * sz,none⟩) n c)
 | mr {w:NW} (i b t s:Nat) (h:w.nm i 0=some (.at b t s)):RelV w (.mr i) (.map (some b))
 | bd {w:NW} (f:FuncId) (fs:List AV) (vs:Array Value) (hl:fs.length=vs.size) (h:∀ (i:Nat) a v,fs[i]?=some a→vs[i]?=some v→RelV w a v):RelV w (.bd f fs) (.func (.func f) vs #[])
 | ifc {w:NW} (t:TypeId) (a:AV) (v:Value) (h:RelV w a v):RelV w (.ifc t a) (.iface t v)
 | mv {w:NW} (m:String) (a:AV) (v:Value) (h:RelV w a v):RelV w (.mv m a) (.func (.method m) #[v] #[])
def RelL (w:NW) (cs:List AV) (vs:List Value):Prop:=cs.length=vs.length∧∀ (i:Nat) a v,cs[i]?=some a→vs[i]?=some v→RelV w a v
def RelF (w:NW) (F:List AV) (tm:Array Value):Prop:=F.length=tm.size∧∀ (i:Nat) a v,F[i]?=some a→tm[i]?=some v→RelV w a v
def RowAt (w:NW) (r:Row):Rz→Prop
 | .nil=>∃ e sz,r=.vec e sz []
 | .at b t s=>s=r.stride∧∃ cur:Array Value,w.heap[b]?=some (r.obj cur)∧r.fit cur.size t∧∀ (i:Nat) a v,r.cells[i]?=some a→cur[i]?=some v→RelV w a v
structure Keep (q:Nat→Bool) (w w':NW):Prop where
 size:w.heap.size≤w'.heap.size
 free:∀ b,b < w.heap.size→¬ w.O b→w'.heap[b]?=w.heap[b]?∧¬ w'.O b
 names:∀ i m z,q i=true→w.nm i m=some z→w'.nm i m=some z
def Glob (w:NW):Prop:=∀ g vs,(g,vs)∈jmx→(∃ cur el fr,w.heap[g]?=some (.cells cur el fr)∧cur.toList=vs)∧¬ w.O g
theorem Glob.keep {q:Nat→Bool} {w w':NW} (h:Glob w) (k:Keep q w w'):Glob w':=fun g vs hm=>by
 obtain ⟨⟨cur,el,fr,h1,h2⟩,h3⟩:=h g vs hm
 have:=k.free g (Array.getElem?_eq_some_iff.1 h1).1 h3
 exact ⟨⟨cur,el,fr,this.1.trans h1,h2⟩,this.2⟩
structure RelW (w:NW) (H:Hp):Prop where
 glob:Glob w
 rows:∀ i r,H.get i=some r→r.ok∧∃ z,w.nm i r.ver=some z∧RowAt w r z
 dom:∀ i m z,w.nm i m=some z→∃ r,H.get i=some r∧m≤r.ver
 inj:∀ i m j n b t s t' s',w.nm i m=some (.at b t s)→w.nm j n=some (.at b t' s')→i=j
 own:∀ i m b t s,w.nm i m=some (.at b t s)→w.O b
 fin:∀ b,w.O b→b < w.heap.size
structure ExtQ (q:Nat→Bool) (w w':NW):Prop extends Keep q w w' where
 os:w'.os=w.os
 tape:w'.tape=w.tape
 output:w'.output=w.output
 rest:∀ b,b < w.heap.size→w.O b→(∀ i m t s,w.nm i m≠some (.at b t s))→w'.heap[b]?=w.heap[b]?∧w'.O b∧∀ i m t s,w'.nm i m≠some (.at b t s)
abbrev ji7:Nat→Bool:=fun _=>true
structure Ext (w:NW) (H:Hp) (w':NW) (H':Hp):Prop extends ExtQ ji7 w w' where
 base:H'.B=H.B
structure ExtB (w:NW) (H:Hp) (w':NW) (H':Hp):Prop extends ExtQ (fun i=>H.B.contains i) w w' where
 base:H'.B=H.B
theorem Keep.refl (q:Nat→Bool) (w:NW):Keep q w w:=⟨Nat.le_refl _,fun _ _ h=>⟨rfl,h⟩,fun _ _ _ _ h=>h⟩
theorem ExtQ.refl (q:Nat→Bool) (w:NW):ExtQ q w w:={ Keep.refl q w with os:=rfl,tape:=rfl,output:=rfl,rest:=fun _ _ h k=>⟨rfl,h,k⟩ }
theorem Ext.refl (w:NW) (H:Hp):Ext w H w H:={ ExtQ.refl _ w with base:=rfl }
theorem ExtB.refl (w:NW) (H:Hp):ExtB w H w H:={ ExtQ.refl _ w with base:=rfl }
theorem Keep.trans {q:Nat→Bool} {a b c:NW} (h:Keep q a b) (k:Keep q b c):Keep q a c:=
 ⟨Nat.le_trans h.size k.size,fun n hn hO=>⟨(k.free n (Nat.lt_of_lt_of_le hn h.size) (h.free n hn hO).2).1.trans (h.free n hn hO).1,(k.free n (Nat.lt_of_lt_of_le hn h.size) (h.free n hn hO).2).2⟩,fun i m z hq hz=>k.names i m z hq (h.names i m z hq hz)⟩
theorem ExtQ.trans {q:Nat→Bool} {a b c:NW} (h:ExtQ q a b) (k:ExtQ q b c):ExtQ q a c:={ h.toKeep.trans k.toKeep with
 os:=k.os.trans h.os,tape:=k.tape.trans h.tape,output:=k.output.trans h.output
 rest:=fun n hn hO hno=>by
  obtain ⟨h1,h2,h3⟩:=h.rest n hn hO hno
  obtain ⟨k1,k2,k3⟩:=k.rest n (Nat.lt_of_lt_of_le hn h.size) h2 h3
  exact ⟨k1.trans h1,k2,k3⟩ }
theorem ExtQ.mono {q p:Nat→Bool} {a b:NW} (h:ExtQ q a b) (hp:∀ i,p i=true→q i=true):ExtQ p a b:={ h with names:=fun i m z hq hz=>h.names i m z (hp i hq) hz }
theorem Ext.trans {a b c:NW} {H H' H'':Hp} (h:Ext a H b H') (k:Ext b H' c H''):Ext a H c H'':={ h.toExtQ.trans k.toExtQ with base:=k.base.trans h.base }
theorem ExtB.trans {a b c:NW} {H H' H'':Hp} (h:ExtB a H b H') (k:ExtB b H' c H''):ExtB a H c H'':={ h.toExtQ.trans (k.toExtQ.mono fun i hi=>by rw [h.base];exact hi) with base:=k.base.trans h.base }
theorem Ext.toB {a b:NW} {H H':Hp} (h:Ext a H b H'):ExtB a H b H':={ h.toExtQ.mono fun _ _=>rfl with base:=h.base }
theorem jam (a:Addr) (n:Nat):(a.add n).block=a.block:=by unfold Addr.add;split<;>rfl
theorem jbF (a:Addr) (i j:Nat):(a.add i).add j=a.add (i+j):=by
 unfold Addr.add
 by_cases hi:i=0<;>by_cases hj:j=0<;>simp [hi,hj,Nat.add_assoc]
theorem jcW (a:Addr):a.add 0=a:=rfl
theorem jak (b o n:Nat):(⟨b,o,none⟩:Addr).add n=⟨b,o+n,none⟩:=by unfold Addr.add;split<;>simp_all
theorem Keep.bare {q:Nat→Bool} {w w':NW} (k:Keep q w w'):Keep ji7 w.bare w'.bare:=⟨k.size,k.free,fun i m z _ h=>by cases h⟩
theorem RelV.keep {w:NW} {a:AV} {v:Value} (h:RelV w a v):∀ {q:Nat→Bool} {w':NW},Keep q w w'→a.all q=true→RelV w' a v:=by
 induction h with
 | raw v=>intro q w' _ _;exact .raw v
 | any v=>intro q w' _ _;exact .any v
 | agg cs vs hl _ ih=>intro q w' k ha;simp only [AV.all] at ha;exact .agg cs vs hl fun i a v h1 h2=>ih i a v h1 h2 k (jaz ha h1)
 | tup cs vs hl _ ih=>intro q w' k ha;simp only [AV.all] at ha;exact .tup cs vs hl fun i a v h1 h2=>ih i a v h1 h2 k (jaz ha h1)
 | sl0 x sz A c hx=>intro q w' _ _;exact .sl0 x sz A c hx
 | @sl w d x sz css a c vs hn hc hx hsz hb hH hcell _ ih=>
  intro q w' k _
  have hk:=k.free _ hb hH
  refine .sl x sz css a c vs hn hc (fun h=>⟨(hx h).1,by obtain ⟨cur,el,hp⟩:=(hx h).2;exact ⟨cur,el,hk.1.trans hp⟩⟩) hsz (Nat.lt_of_lt_of_le hb k.size) hk.2 (fun i j hi hj=>?_) fun i j u hi hu=>ih i j u hi hu k.bare (jaC u)
  rw [World.cell?_of_block (w:=w.toWorld) (by rw [jam];exact hk.1)]
  exact hcell i j hi hj
 | @ip w cs a vs hb hH hcell _ ih=>
  intro q w' k _
  have hk:=k.free _ hb hH
  refine .ip cs a vs (Nat.lt_of_lt_of_le hb k.size) hk.2 (fun j hj=>?_) fun j u hu=>ih j u hu k.bare (jaC u)
  rw [World.cell?_of_block (w:=w.toWorld) (by rw [jam];exact hk.1)]
  exact hcell j hj
 | gd p a v _ hu ih=>intro q w' k ha;exact .gd p a v (fun hp=>ih hp k (by simpa only [AV.all] using ha)) hu
 | clo f cs vs hl _ ih=>intro q w' k ha;simp only [AV.all] at ha;exact .clo f cs vs hl fun i a v h1 h2=>ih i a v h1 h2 k (jaz ha h1)
 | pt i m o j b t s h=>intro q w' k ha;exact .pt i m o j b t s (k.names _ _ _ (by simpa only [AV.all] using ha) h)
 | rs0 i m sz A h=>intro q w' k ha;exact .rs0 i m sz A (k.names _ _ _ (by simpa only [AV.all] using ha) h)
 | rs i m sz n b t c h hc hn hs=>intro q w' k ha;exact .rs i m sz n b t c (k.names _ _ _ (by simpa only [AV.all] using ha) h) hc hn hs
 | rc i m sz n b t h hc hn hs=>intro q w' k ha;exact .rc i m sz n b t (k.names _ _ _ (by simpa only [AV.all] using ha) h) hc hn hs
 | rv0 i m sz o c A=>intro q w' _ _;exact .rv0 i m sz o c A
 | rv i m sz o n b t c h hn=>intro q w' k ha;exact .rv i m sz o n b t c (k.names _ _ _ (by simpa only [AV.all] using ha) h) hn
 | mr i b t s h=>intro q w' k ha;exact .mr i b t s (k.names _ _ _ (by simpa only [AV.all] using ha) h)
 | bd f fs vs hl _ ih=>intro q w' k ha;simp only [AV.all] at ha;exact .bd f fs vs hl fun i a v h1 h2=>ih i a v h1 h2 k (jaz ha h1)
 | ifc t a v _ ih=>intro q w' k ha;exact .ifc t a v (ih k (by simpa only [AV.all] using ha))
 | mv m a v _ ih=>intro q w' k ha;exact .mv m a v (ih k (by simpa only [AV.all] using ha))
theorem RelV.ext {w w':NW} {H H':Hp} (e:Ext w H w' H') {a:AV} {v:Value} (h:RelV w a v):RelV w' a v:=h.keep e.toKeep (jaC a)
theorem RelL.ext {w w':NW} {H H':Hp} (e:Ext w H w' H') {cs:List AV} {vs:List Value} (h:RelL w cs vs):RelL w' cs vs:=⟨h.1,fun i a v ha hv=>(h.2 i a v ha hv).ext e⟩
theorem RelF.ext {w w':NW} {H H':Hp} (e:Ext w H w' H') {F:List AV} {tm:Array Value} (h:RelF w F tm):RelF w' F tm:=⟨h.1,fun i a v ha hv=>(h.2 i a v ha hv).ext e⟩
theorem RelF.keep {q:Nat→Bool} {w w':NW} (k:Keep q w w') {F:List AV} {tm:Array Value} (h:RelF w F tm) (hF:jaV q F=true):RelF w' F tm:=⟨h.1,fun i a v ha hv=>(h.2 i a v ha hv).keep k (jaz hF ha)⟩
theorem RelL.keep {q:Nat→Bool} {w w':NW} (k:Keep q w w') {F:List AV} {tm:List Value} (h:RelL w F tm) (hF:jaV q F=true):RelL w' F tm:=⟨h.1,fun i a v ha hv=>(h.2 i a v ha hv).keep k (jaz hF ha)⟩
abbrev noQ:Nat→Bool:=fun _=>false
theorem Keep.strip (w:NW):Keep noQ w w.bare:=⟨Nat.le_refl _,fun _ _ h=>⟨rfl,h⟩,fun _ _ _ h _=>by cases h⟩
theorem Keep.dress (w:NW):Keep ji7 w.bare w:=⟨Nat.le_refl _,fun _ _ h=>⟨rfl,h⟩,fun _ _ _ _ h=>by cases h⟩
theorem RelV.strip {w:NW} {a:AV} {v:Value} (h:RelV w a v) (ha:a.all noQ=true):RelV w.bare a v:=h.keep (Keep.strip w) ha
theorem RelV.dress {w:NW} {a:AV} {v:Value} (h:RelV w.bare a v):RelV w a v:=h.keep (Keep.dress w) (jaC a)
theorem RelW.lt {w:NW} {H:Hp} (h:RelW w H) {i m b t s:Nat} (hn:w.nm i m=some (.at b t s)):b < w.heap.size:=h.fin b (h.own _ _ _ _ _ hn)
theorem RelW.none {w:NW} {H:Hp} (h:RelW w H) {i:Nat} (hi:H.get i=none) (m:Nat):w.nm i m=none:=by
 cases e:w.nm i m with
 | none=>rfl
 | some z=>obtain ⟨r,hr,_⟩:=h.dom i m z e;rw [hi] at hr;cases hr
theorem RelW.later {w:NW} {H:Hp} (h:RelW w H) {i m:Nat} {r:Row} (hi:H.get i=some r) (hm:r.ver < m):w.nm i m=Option.none:=by
 cases e:w.nm i m with
 | none=>rfl
 | some z=>obtain ⟨s,hs,hle⟩:=h.dom i m z e;rw [hi] at hs;cases hs;omega
theorem RowAt.ext {w w':NW} {H H':Hp} (e:Ext w H w' H') {r:Row} {z:Rz} (hz:∀ b t s,z=.at b t s→w'.heap[b]?=w.heap[b]?) (h:RowAt w r z):RowAt w' r z:=by
 cases z with
 | nil=>exact h
 | «at» b t s=>
  obtain ⟨h1,cur,h2,h3,h5⟩:=h
  exact ⟨h1,cur,(hz b t s rfl).trans h2,h3,fun i a v ha hv=>(h5 i a v ha hv).ext e⟩
@[reducible] def NW.to (w:NW) (W:World):NW:={ w with toWorld:=W }
def NW.name (w:NW) (i m:Nat) (z:Rz):NW:={ w with nm:=fun j n=>if j=i∧n=m then some z else w.nm j n }
theorem NW.name_same (w:NW) (i m:Nat) (z:Rz):(w.name i m z).nm i m=some z:=if_pos ⟨rfl,rfl⟩
def NW.seize (w:NW) (b:Nat):NW:={ w with O:=fun c=>c=b∨w.O c }
theorem Ext.alloc_free {w:NW} {H:Hp} (r:RelW w H) (o:Obj):Ext w H (w.to (w.alloc o)) H:={
 size:=by simp
 free:=fun b hb hn=>⟨RowKit.Below.heap_alloc w.toWorld o b hb,hn⟩
 names:=fun _ _ _ _ h=>h
 os:=rfl,tape:=rfl,output:=rfl
 rest:=fun b hb hO hno=>⟨RowKit.Below.heap_alloc w.toWorld o b hb,hO,hno⟩
 base:=rfl }
theorem RelW.alloc_free {w:NW} {H:Hp} (r:RelW w H) (o:Obj):RelW (w.to (w.alloc o)) H:={
 rows:=fun i row hi=>by
  obtain ⟨h1,z,h2,h3⟩:=r.rows i row hi
  refine ⟨h1,z,h2,h3.ext (Ext.alloc_free r o) fun b t s e=>?_⟩
  subst e
  exact RowKit.Below.heap_alloc w.toWorld o b (r.lt h2)
 dom:=r.dom,inj:=r.inj,own:=r.own
 glob:=r.glob.keep (Ext.alloc_free r o).toKeep
 fin:=fun b hb=>by have:=r.fin b hb;simp;omega }
theorem Ext.drew (w:NW) (H:Hp):Ext w H (w.to w.drew) H:={ size:=Nat.le_refl _,free:=fun _ _ h=>⟨rfl,h⟩,names:=fun _ _ _ _ h=>h,os:=rfl,tape:=rfl,output:=rfl,rest:=fun _ _ h k=>⟨rfl,h,k⟩,base:=rfl }
theorem RelW.drew {w:NW} {H:Hp} (r:RelW w H):RelW (w.to w.drew) H:={
 rows:=fun i row hi=>by
  obtain ⟨h1,z,h2,h3⟩:=r.rows i row hi
  exact ⟨h1,z,h2,h3.ext (Ext.drew w H) fun b t s e=>rfl⟩
 dom:=r.dom,inj:=r.inj,own:=r.own,fin:=r.fin,glob:=r.glob.keep (Ext.drew w H).toKeep }
theorem jcs {w:NW} {H:Hp} (r:RelW w H) {i:Nat} {row:Row} (hfree:w.nm i row.ver=none) (hlater:∀ r',H.get i=some r'→r'.ver≤row.ver) (hok:row.ok) (cur:Array Value) (hle:row.fit cur.size cur.size)
  (hc:∀ (k:Nat) a v,row.cells[k]?=some a→cur[k]?=some v→RelV w a v) :
  RelW (((w.to (w.alloc (row.obj cur))).seize w.heap.size).name i row.ver (.at w.heap.size cur.size row.stride)) (H.put i row)∧
  Ext w H (((w.to (w.alloc (row.obj cur))).seize w.heap.size).name i row.ver (.at w.heap.size cur.size row.stride)) (H.put i row):=by
 have ex:Ext w H (((w.to (w.alloc (row.obj cur))).seize w.heap.size).name i row.ver (.at w.heap.size cur.size row.stride)) (H.put i row):={
  size:=by show w.heap.size≤(w.alloc _).heap.size;simp
  free:=fun b hb hn=>⟨RowKit.Below.heap_alloc w.toWorld _ b hb,fun h=>by
   rcases h with h | h
   ·omega
   ·exact hn h⟩
  names:=fun j n z _ h=>by
   show (if j=i∧n=row.ver then _ else _)=_
   rw [if_neg]
   ·exact h
   ·rintro ⟨rfl,rfl⟩;rw [hfree] at h;cases h
  os:=rfl,tape:=rfl,output:=rfl
  rest:=fun b hb hO hno=>⟨RowKit.Below.heap_alloc w.toWorld _ b hb,.inr hO,fun j n t s h=>by
   have h:(if j=i∧n=row.ver then some (Rz.at w.heap.size cur.size row.stride) else w.nm j n)=some (.at b t s):=h
   split at h
   ·cases h;omega
   ·exact hno _ _ _ _ h⟩
  base:=rfl }
 have nmE:∀ j n,(((w.to (w.alloc (row.obj cur))).seize w.heap.size).name i row.ver (.at w.heap.size cur.size row.stride)).nm j n=if j=i∧n=row.ver then some (Rz.at w.heap.size cur.size row.stride) else w.nm j n:=fun _ _=>rfl
 refine ⟨{ rows:=fun j s hj=>?_,dom:=fun j n z hz=>?_,inj:=fun j n j' n' b t s t' s' h1 h2=>?_,own:=fun j n b t s h=>?_,fin:=fun b hb=>?_,glob:=r.glob.keep ex.toKeep },ex⟩
 ·rw [Hp.get_put] at hj
  split at hj
  ·rename_i e;subst e;cases hj
   refine ⟨hok,.at w.heap.size cur.size row.stride,by rw [nmE,if_pos ⟨rfl,rfl⟩],rfl,cur,heap_alloc_new w.toWorld _,hle,fun k a v ha hv=>(hc k a v ha hv).ext ex⟩
  ·rename_i e
   obtain ⟨h1,z,h2,h3⟩:=r.rows j s hj
   refine ⟨h1,z,by rw [nmE,if_neg (fun h=>e h.1)];exact h2,h3.ext ex fun b t s e=>?_⟩
   subst e
   exact RowKit.Below.heap_alloc w.toWorld _ b (r.lt h2)
 ·rw [nmE] at hz
  rw [Hp.get_put]
  split at hz
  ·rename_i e
   exact ⟨row,by rw [if_pos e.1],by rw [e.2];exact Nat.le_refl _⟩
  ·obtain ⟨r',h1,h2⟩:=r.dom j n z hz
   by_cases e:j=i
   ·subst e
    exact ⟨row,by rw [if_pos rfl],Nat.le_trans h2 (hlater r' h1)⟩
   ·exact ⟨r',by rw [if_neg e];exact h1,h2⟩
 ·rw [nmE] at h1 h2
  split at h1<;>split at h2
  ·rename_i e1 e2;rw [e1.1,e2.1]
  ·cases h1;have:=r.lt h2;omega
  ·cases h2;have:=r.lt h1;omega
  ·exact r.inj _ _ _ _ _ _ _ _ _ h1 h2
 ·rw [nmE] at h
  split at h
  ·cases h;exact .inl rfl
  ·exact .inr (r.own _ _ _ _ _ h)
 ·show b < (w.alloc _).heap.size
  rcases hb with h | h
  ·subst h;simp
  ·have:=r.fin b h;simp;omega
theorem jey {w:NW} {H:Hp} {W:World} (r:RelW w H) {i:Nat} {row row':Row} {b t:Nat} (hi:H.get i=some row) (hn:w.nm i row.ver=some (.at b t row.stride)) (hs:row'.stride=row.stride) (hv:row.ver≤row'.ver) (hok:row'.ok)
  (h1:W.os=w.os) (h2:W.tape=w.tape) (h3:W.output=w.output) (hsz:W.heap.size=w.heap.size) (hk:∀ c,c≠b→W.heap[c]?=w.heap[c]?) (cur:Array Value) (hnew:W.heap[b]?=some (row'.obj cur)) (hct:row'.fit cur.size t)
  (hc:∀ (k:Nat) a v,row'.cells[k]?=some a→cur[k]?=some v→RelV w a v) :
  RelW ((w.to W).name i row'.ver (.at b t row.stride)) (H.put i row')∧Ext w H ((w.to W).name i row'.ver (.at b t row.stride)) (H.put i row'):=by
 have hO:=r.own _ _ _ _ _ hn
 have ex:Ext w H ((w.to W).name i row'.ver (.at b t row.stride)) (H.put i row'):={
  size:=by show w.heap.size≤W.heap.size;omega
  free:=fun c hc hO'=>⟨hk c (fun e=>hO' (e ▸ hO)),hO'⟩
  names:=fun j n z _ h=>by
   show (if j=i∧n=row'.ver then _ else _)=_
   split
   ·rename_i e
    obtain ⟨rfl,rfl⟩:=e
    obtain ⟨r',g1,g2⟩:=r.dom _ _ _ h
    rw [hi] at g1;cases g1
    have:row.ver=row'.ver:=by omega
    rw [← this,hn] at h
    exact h
   ·exact h
  os:=h1,tape:=h2,output:=h3
  rest:=fun c hc hO' hno=>⟨hk c (fun e=>hno _ _ _ _ (e ▸ hn)),hO',fun j n t' s h=>by
   have h:(if j=i∧n=row'.ver then some (Rz.at b t row.stride) else w.nm j n)=some (.at c t' s):=h
   split at h
   ·cases h;exact hno _ _ _ _ hn
   ·exact hno _ _ _ _ h⟩
  base:=rfl }
 have nmE:∀ j n,((w.to W).name i row'.ver (.at b t row.stride)).nm j n=if j=i∧n=row'.ver then some (Rz.at b t row.stride) else w.nm j n:=fun _ _=>rfl
 refine ⟨{ rows:=fun j s hj=>?_,dom:=fun j n z hz=>?_,inj:=fun j n j' n' b' t1 s t' s' g1 g2=>?_,own:=fun j n b' t' s h=>?_,fin:=fun c hb=>?_,glob:=r.glob.keep ex.toKeep },ex⟩
 ·rw [Hp.get_put] at hj
  split at hj
  ·rename_i e;subst e;cases hj
   exact ⟨hok,.at b t row.stride,by rw [nmE,if_pos ⟨rfl,rfl⟩],hs.symm,cur,hnew,hct,fun k a v ha hv=>(hc k a v ha hv).ext ex⟩
  ·rename_i e
   obtain ⟨g1,z,g2,g3⟩:=r.rows j s hj
   refine ⟨g1,z,by rw [nmE,if_neg (fun h=>e h.1)];exact g2,g3.ext ex fun c t' s' e'=>?_⟩
   subst e'
   exact hk c fun e'=>by subst e';exact e (r.inj _ _ _ _ _ _ _ _ _ g2 hn)
 ·rw [nmE] at hz
  rw [Hp.get_put]
  split at hz
  ·rename_i e
   exact ⟨row',by rw [if_pos e.1],by rw [e.2];exact Nat.le_refl _⟩
  ·obtain ⟨r',g1,g2⟩:=r.dom j n z hz
   by_cases e:j=i
   ·subst e
    rw [hi] at g1;cases g1
    exact ⟨row',by rw [if_pos rfl],Nat.le_trans g2 hv⟩
   ·exact ⟨r',by rw [if_neg e];exact g1,g2⟩
 ·rw [nmE] at g1 g2
  split at g1<;>split at g2
  ·rename_i e1 e2;rw [e1.1,e2.1]
  ·rename_i e1 _;cases g1;rw [e1.1];exact r.inj _ _ _ _ _ _ _ _ _ hn g2
  ·rename_i _ e2;cases g2;rw [e2.1];exact r.inj _ _ _ _ _ _ _ _ _ g1 hn
  ·exact r.inj _ _ _ _ _ _ _ _ _ g1 g2
 ·rw [nmE] at h
  split at h
  ·cases h;exact hO
  ·exact r.own _ _ _ _ _ h
 ·show c < W.heap.size
  have:=r.fin c hb;omega
theorem jfe {w:NW} {H:Hp} (r:RelW w H) {i:Nat} (hi:H.get i=none) (e:TypeId) {sz:Nat} (hsz:0 < sz):RelW (w.name i 0 .nil) (H.put i (.vec e sz []))∧Ext w H (w.name i 0 .nil) (H.put i (.vec e sz [])):=by
 have hnone:=r.none hi
 have nmE:∀ j n,(w.name i 0 .nil).nm j n=if j=i∧n=0 then some Rz.nil else w.nm j n:=fun _ _=>rfl
 have ex:Ext w H (w.name i 0 .nil) (H.put i (.vec e sz [])):={
  size:=Nat.le_refl _,free:=fun _ _ h=>⟨rfl,h⟩
  names:=fun j n z _ h=>by
   rw [nmE,if_neg]
   ·exact h
   ·rintro ⟨rfl,rfl⟩;rw [hnone] at h;cases h
  os:=rfl,tape:=rfl,output:=rfl
  rest:=fun b hb hO hno=>⟨rfl,hO,fun j n t s h=>by
   rw [nmE] at h
   split at h
   ·cases h
   ·exact hno _ _ _ _ h⟩
  base:=rfl }
 refine ⟨{ rows:=fun j s hj=>?_,dom:=fun j n z hz=>?_,inj:=fun j n j' n' b t s t' s' h1 h2=>?_,own:=fun j n b t s h=>?_,fin:=r.fin,glob:=r.glob.keep ex.toKeep },ex⟩
 ·rw [Hp.get_put] at hj
  split at hj
  ·rename_i e';subst e';cases hj
   exact ⟨⟨hsz,fun _ h=>by simp at h⟩,.nil,by rw [nmE];exact if_pos ⟨rfl,rfl⟩,e,sz,rfl⟩
  ·rename_i e'
   obtain ⟨h1,z,h2,h3⟩:=r.rows j s hj
   exact ⟨h1,z,by rw [nmE,if_neg (fun h=>e' h.1)];exact h2,h3.ext ex fun b t s _=>rfl⟩
 ·rw [nmE] at hz
  rw [Hp.get_put]
  split at hz
  ·rename_i e'
   exact ⟨_,by rw [if_pos e'.1],by rw [e'.2];exact Nat.zero_le _⟩
  ·obtain ⟨r',h1,h2⟩:=r.dom j n z hz
   have e':j≠i:=fun e'=>by subst e';rw [hi] at h1;cases h1
   exact ⟨r',by rw [if_neg e'];exact h1,h2⟩
 ·rw [nmE] at h1 h2
  split at h1
  ·cases h1
  ·split at h2
   ·cases h2
   ·exact r.inj _ _ _ _ _ _ _ _ _ h1 h2
 ·rw [nmE] at h
  split at h
  ·cases h
  ·exact r.own _ _ _ _ _ h
def NW.drop (w:NW) (i:Nat):NW:={ w with nm:=fun j n=>if j=i then none else w.nm j n }
def NW.free (w:NW) (i:Nat):NW:={ w with O:=fun b=>w.O b∧∀ m t s,w.nm i m≠some (.at b t s),nm:=fun j n=>if j=i then none else w.nm j n }
def neQ (i:Nat):Nat→Bool:=fun j=>!(j == i)
def jm4 (i:Nat):List (Nat×Row)→Bool
 | []=>true
 | (j,r)::l=>(j == i || jaV (neQ i) r.cells) && jm4 i l
-- abstract frames
def evA (F:List AV):Operand→AV
 | .tmp t=>F.getD t .any
 | .const v=>.raw v
 | .global g=>.raw (.pointer (some ⟨g,0,none⟩))
 | .func f=>.raw (.func (.func f) #[] #[])
def jaw (F:List AV) (d:Option Tmp) (a:AV):List AV:=match d with
 | some d=>F.set d a
 | none=>F
theorem RelF.eval {w:NW} {F:List AV} {tm:Array Value} (h:RelF w F tm) (ds:List Deferred) (x:Operand):RelV w (evA F x) ((Act.mk tm ds).eval x):=by
 cases x with
 | tmp t=>
  simp only [evA,Act.eval]
  by_cases ht:t < F.length
  ·have ht':t < tm.size:=by rw [← h.1];exact ht
   have h1:F[t]?=some (F.getD t .any):=by simp [ht]
   have h2:tm[t]?=some (tm.getD t undef):=by simp [ht']
   exact h.2 t _ _ h1 h2
  ·have:F.getD t .any=.any:=by simp [List.getElem?_eq_none (Nat.le_of_not_lt ht)]
   rw [this];exact .any _
 | const v=>exact .raw v
 | global g=>exact .raw _
 | func f=>exact .raw _
theorem RelF.put {w:NW} {F:List AV} {tm:Array Value} (h:RelF w F tm) (d:Option Tmp) {a:AV} {v:Value} (hv:RelV w a v) (ds:List Deferred):RelF w (jaw F d a) ((Act.mk tm ds).put d v).tmps:=by
 cases d with
 | none=>exact h
 | some d=>
  refine ⟨by simp [jaw,Act.put,h.1],fun i a' v' ha hv'=>?_⟩
  simp only [jaw,Act.put] at ha hv'
  rw [List.getElem?_set] at ha
  rw [Array.getElem?_setIfInBounds] at hv'
  by_cases hd:d=i
  ·subst hd
   simp only [if_true] at ha hv'
   split at ha<;>split at hv'<;>simp_all
  ·simp only [if_neg hd] at ha hv'
   exact h.2 i a' v' ha hv'
theorem Act.put_eq (tm:Array Value) (ds:List Deferred) (d:Option Tmp) (v:Value):(Act.mk tm ds).put d v=⟨((Act.mk tm ds).put d v).tmps,ds⟩:=by cases d<;>rfl
def Post (Q:Exit→List AV→Hp→Prop) (w:NW) (H:Hp):Exit→Act→World→Prop:=fun e a W=>
 ∃ tm F' H' w',W=w'.toWorld∧a=⟨tm,[]⟩∧Q e F' H'∧RelW w' H'∧RelF w' F' tm∧ExtB w H w' H'
def AWP (P:Program) (c:Code) (Q:Exit→List AV→Hp→Prop) (F:List AV) (H:Hp):Prop:=
 ∀ (w:NW) tm,RelW w H→RelF w F tm→Code.wp P c (Post Q w H) ⟨tm,[]⟩ w.toWorld
def FLe (F:List AV) (H:Hp) (F':List AV) (H':Hp):Prop:=∀ (w:NW) tm,RelW w H→RelF w F tm→∃ w':NW,w'.toWorld=w.toWorld∧RelW w' H'∧RelF w' F' tm∧ExtB w H w' H'
theorem FLe.refl (F:List AV) (H:Hp):FLe F H F H:=fun w _tm h1 h2=>⟨w,rfl,h1,h2,ExtB.refl w H⟩
theorem FLe.trans {F F' F'':List AV} {H H' H'':Hp} (h:FLe F H F' H') (k:FLe F' H' F'' H''):FLe F H F'' H'':=fun w tm h1 h2=>by
 obtain ⟨w',e,a,b,c⟩:=h w tm h1 h2
 obtain ⟨w'',e',a',b',c'⟩:=k w' tm a b
 exact ⟨w'',e'.trans e,a',b',c.trans c'⟩
def LLe:List AV→List AV→Prop
 | [],[]=>True
 | a::l,b::m=>(b=.any∨a=b)∧LLe l m
 | _,_=>False
theorem LLe.refl:∀ l,LLe l l
 | []=>trivial
 | _::l=>⟨.inr rfl,LLe.refl l⟩
theorem LLe.get:∀ {l m:List AV},LLe l m→l.length=m.length∧∀ (i:Nat) a b,l[i]?=some a→m[i]?=some b→b=.any∨a=b
 | [],[],_=>⟨rfl,fun i a b h=>by simp at h⟩
 | x::l,y::m,h=>by
  have ih:=LLe.get h.2
  refine ⟨by simp [ih.1],fun i a b ha hb=>?_⟩
  cases i with
  | zero=>simp at ha hb;subst ha hb;exact h.1
  | succ i=>exact ih.2 i a b (by simpa using ha) (by simpa using hb)
theorem FLe.pt {F F':List AV} (H:Hp) (h:LLe F F'):FLe F H F' H:=fun w tm h1 h2=>by
 obtain ⟨hl,hg⟩:=h.get
 refine ⟨w,rfl,h1,⟨hl.symm.trans h2.1,fun i a v ha hv=>?_⟩,ExtB.refl w H⟩
 have hi:i < F.length:=by rw [hl];exact (List.getElem?_eq_some_iff.1 ha).1
 rcases hg i F[i] a (List.getElem?_eq_getElem hi) ha with rfl | he
 ·exact .any v
 ·exact he ▸ h2.2 i _ v (List.getElem?_eq_getElem hi) hv
def jkX (lo n:Nat) (F:List AV):List AV:=F.take lo++List.replicate n .any++F.drop (lo+n)
def jkc (W:List (Nat×Nat)) (F:List AV):List AV:=W.foldl (fun F d=>jkX d.1 d.2 F) F
section
variable {P:Program} {Q Q':Exit→List AV→Hp→Prop} {F:List AV} {H:Hp}
theorem Post.weak {w w':NW} {H H':Hp} (e:ExtB w H w' H') {x:Exit} {a:Act} {w'':World} (h:Post Q w' H' x a w''):Post Q w H x a w'':=by
 obtain ⟨tm,F',H'',n,h0,h1,h2,h3,h4,h5⟩:=h
 exact ⟨tm,F',H'',n,h0,h1,h2,h3,h4,e.trans h5⟩
theorem jhU {c:Code} {F':List AV} {H':Hp} (hl:FLe F H F' H') (h:AWP P c Q F' H'):AWP P c Q F H:=fun w tm h1 h2=>by
 obtain ⟨w',e0,a,b,e⟩:=hl w tm h1 h2
 rw [← e0]
 exact wp_mono (h w' tm a b) fun _ _ _ hp=>hp.weak e
def jeR (next:List AV→Hp→Prop) (Q:Exit→List AV→Hp→Prop):Exit→List AV→Hp→Prop
 | .normal,F,H=>next F H
 | e,F,H=>Q e F H
def jb6 (id:Nat) (Q:Exit→List AV→Hp→Prop):Exit→List AV→Hp→Prop
 | .exit id',F,H=>if id'=id then Q .normal F H else Q (.exit id') F H
 | e,F,H=>Q e F H
theorem jgC {x y:Code} (h:AWP P x (jeR (AWP P y Q) Q) F H):AWP P (.seq x y) Q F H:=fun w tm h1 h2=>by
 refine wp_seq (wp_mono (h w tm h1 h2) ?_)
 rintro e a W ⟨tm',F',H',w',rfl,rfl,hq,h3,h4,h5⟩
 cases e with
 | normal=>exact wp_mono (hq w' tm' h3 h4) fun _ _ _ hp=>hp.weak h5
 | exit id=>exact ⟨tm',F',H',w',rfl,rfl,hq,h3,h4,h5⟩
 | goto l=>exact ⟨tm',F',H',w',rfl,rfl,hq,h3,h4,h5⟩
 | ret=>exact ⟨tm',F',H',w',rfl,rfl,hq,h3,h4,h5⟩
 | panic ch=>exact ⟨tm',F',H',w',rfl,rfl,hq,h3,h4,h5⟩
 | outgrown=>exact ⟨tm',F',H',w',rfl,rfl,hq,h3,h4,h5⟩
theorem jat {x y:Code} (h:∀ K:List AV→Hp→Prop,(∀ F H,AWP P y Q F H→K F H)→AWP P x (jeR K Q) F H):AWP P (.seq x y) Q F H:=jgC (h _ fun _ _ h=>h)
theorem jcR {c:Code} {e:Exit} (hc:∀ (R:Exit→Act→World→Prop) a w,R e a w→Code.wp P c R a w) (h:Q e F H):AWP P c Q F H:=fun w tm h1 h2=>hc _ _ _ ⟨tm,F,H,w,rfl,rfl,h,h1,h2,ExtB.refl w H⟩
theorem jfD (h:Q .normal F H):AWP P .skip Q F H:=jcR (fun _ _ _ h=>wp_skip h) h
theorem jgz {l:Nat} (h:Q .normal F H):AWP P (.label l) Q F H:=jcR (fun _ _ _ h=>wp_label h) h
theorem jfB {id:Nat} (h:Q (.exit id) F H):AWP P (.exit id) Q F H:=jcR (fun _ _ _ h=>wp_exit h) h
theorem jgA (h:Q .ret F H):AWP P .ret Q F H:=jcR (fun _ _ _ h=>wp_ret h) h
theorem jdQ {c:Operand} {x y:Code} {b:Bool} (hc:evA F c=.raw (.bool b)) (ht:b=true→AWP P x Q F H) (hf:b=false→AWP P y Q F H):AWP P (.cond c x y) Q F H:=fun w tm h1 h2=>by
 have he:=h2.eval [] c
 rw [hc] at he
 generalize hv:(Act.mk tm []).eval c=v at he
 cases he
 exact wp_cond_split hv (fun h=>ht h w tm h1 h2) (fun h=>hf h w tm h1 h2)
theorem jdR {c:Operand} {x y:Code} (hc:evA F c=.raw (.bool true)) (h:AWP P x Q F H):AWP P (.cond c x y) Q F H:=jdQ hc (fun _=>h) (fun e=>by cases e)
theorem jdj {c:Operand} {x y:Code} (hc:evA F c=.raw (.bool false)) (h:AWP P y Q F H):AWP P (.cond c x y) Q F H:=jdQ hc (fun e=>by cases e) (fun _=>h)
theorem jel {id:Nat} {c:Code} (h:AWP P c (jb6 id Q) F H):AWP P (.block id c) Q F H:=fun w tm h1 h2=>by
 refine wp_block (wp_mono (h w tm h1 h2) ?_)
 rintro e a W ⟨tm',F',H',w',rfl,rfl,hq,h3,h4,h5⟩
 cases e with
 | normal=>exact ⟨tm',F',H',w',rfl,rfl,hq,h3,h4,h5⟩
 | exit id'=>
  simp only [jb6] at hq
  simp only [Exit.inBlock]
  split<;>rename_i hid
  ·rw [if_pos hid] at hq;exact ⟨tm',F',H',w',rfl,rfl,hq,h3,h4,h5⟩
  ·rw [if_neg hid] at hq;exact ⟨tm',F',H',w',rfl,rfl,hq,h3,h4,h5⟩
 | goto l=>exact ⟨tm',F',H',w',rfl,rfl,hq,h3,h4,h5⟩
 | ret=>exact ⟨tm',F',H',w',rfl,rfl,hq,h3,h4,h5⟩
 | panic ch=>exact ⟨tm',F',H',w',rfl,rfl,hq,h3,h4,h5⟩
 | outgrown=>exact ⟨tm',F',H',w',rfl,rfl,hq,h3,h4,h5⟩
theorem jgB {c:Code} (h:AWP P c (fun e F H=>(∀ l,e≠.goto l)∧Q e F H) F H):AWP P (.scope c) Q F H:=fun w tm h1 h2=>by
 refine wp_scope_straight (wp_mono (h w tm h1 h2) ?_)
 rintro e a W ⟨tm',F',H',w',rfl,rfl,⟨hg,hq⟩,h3,h4,h5⟩
 cases e with
 | goto l=>exact (hg l rfl).elim
 | normal=>exact ⟨tm',F',H',w',rfl,rfl,hq,h3,h4,h5⟩
 | exit id=>exact ⟨tm',F',H',w',rfl,rfl,hq,h3,h4,h5⟩
 | ret=>exact ⟨tm',F',H',w',rfl,rfl,hq,h3,h4,h5⟩
 | panic ch=>exact ⟨tm',F',H',w',rfl,rfl,hq,h3,h4,h5⟩
 | outgrown=>exact ⟨tm',F',H',w',rfl,rfl,hq,h3,h4,h5⟩
theorem jfC {S:Type} {c:Code} (I:S→List AV→Hp→Prop) (μ:S→Nat) (s₀:S) {F₀:List AV} {H₀:Hp} (hle:FLe F H F₀ H₀) (h₀:I s₀ F₀ H₀)
  (round:∀ s F H,I s F H→AWP P c (jeR (fun F' H'=>∃ s' F'' H'',μ s' < μ s∧FLe F' H' F'' H''∧I s' F'' H'') Q) F H):AWP P (.loop c) Q F H:=fun w tm h1 h2=>by
 obtain ⟨w0,ew,h1,h2,e0⟩:=hle w tm h1 h2
 rw [← ew]
 refine wp_loop_ghost (fun n a W=>∃ s F' H' tm' w',μ s=n∧I s F' H'∧W=NW.toWorld w'∧a=⟨tm',[]⟩∧RelW w' H'∧RelF w' F' tm'∧ExtB w H w' H') (μ s₀) ⟨s₀,F₀,H₀,tm,w0,rfl,h₀,rfl,rfl,h1,h2,e0⟩ ?_
 rintro n a W ⟨s,F',H',tm',w',rfl,hI,rfl,rfl,h3,h4,h5⟩
 refine wp_mono (round s F' H' hI w' tm' h3 h4) ?_
 rintro e a W ⟨tm'',F'',H'',w'',rfl,rfl,hq,h6,h7,h8⟩
 cases e with
 | normal=>
  obtain ⟨s',F3,H3,hlt,hl,hI'⟩:=hq
  obtain ⟨w3,ew3,g1,g2,g3⟩:=hl w'' tm'' h6 h7
  exact ⟨μ s',hlt,s',F3,H3,tm'',w3,rfl,hI',ew3.symm,rfl,g1,g2,(h5.trans h8).trans g3⟩
 | exit id=>exact ⟨tm'',F'',H'',w'',rfl,rfl,hq,h6,h7,h5.trans h8⟩
 | goto l=>exact ⟨tm'',F'',H'',w'',rfl,rfl,hq,h6,h7,h5.trans h8⟩
 | ret=>exact ⟨tm'',F'',H'',w'',rfl,rfl,hq,h6,h7,h5.trans h8⟩
 | panic ch=>exact ⟨tm'',F'',H'',w'',rfl,rfl,hq,h6,h7,h5.trans h8⟩
 | outgrown=>exact ⟨tm'',F'',H'',w'',rfl,rfl,hq,h6,h7,h5.trans h8⟩
end
-- regions
def jeQ (P:Program) (ops:Array Oper) (Q:Exit→Act→World→Prop) (o:Oper) (next:Act→World→Prop) (a:Act) (w:World):Prop:=
 if Region.wanted o (yielded ops a.tmps) then o.wp P a w next Q∨(o.asks P a w∧LetsOut Q) else next (a.put o.dst undef) w
def AOp (P:Program) (ops:Array Oper) (o:Oper) (F:List AV) (H:Hp) (K:List AV→Hp→Prop):Prop:=
 ∀ (w:NW) tm (Q:Exit→Act→World→Prop) (next:Act→World→Prop),RelW w H→RelF w F tm→
  (∀ tm' (w':NW) F' H',K F' H'→RelW w' H'→RelF w' F' tm'→Ext w H w' H'→next ⟨tm',[]⟩ w'.toWorld)→jeQ P ops Q o next ⟨tm,[]⟩ w.toWorld
def jj1 (P:Program) (ops:Array Oper) (K:List AV→Hp→Prop) (l:List Oper) (F:List AV) (H:Hp):Prop:=
 ∀ (w:NW) tm (Q:Exit→Act→World→Prop),RelW w H→RelF w F tm→
  (∀ tm' (w':NW) F' H',K F' H'→RelW w' H'→RelF w' F' tm'→Ext w H w' H'→Q .normal ⟨tm',[]⟩ w'.toWorld)→wpList P ops Q l ⟨tm,[]⟩ w.toWorld
section
variable {P:Program} {ops:Array Oper} {F:List AV} {H:Hp} {K:List AV→Hp→Prop}
theorem AOp.mono {o:Oper} {K':List AV→Hp→Prop} (h:AOp P ops o F H K) (hk:∀ F H,K F H→K' F H):AOp P ops o F H K':=
 fun w tm Q next h1 h2 hn=>h w tm Q next h1 h2 fun tm' w' F' H' k=>hn tm' w' F' H' (hk _ _ k)
theorem jfA (h:K F H):jj1 P ops K [] F H:=fun w tm Q h1 h2 hq=>hq tm w F H h h1 h2 (Ext.refl w H)
theorem jek {o:Oper} {rest:List Oper} (h:AOp P ops o F H (jj1 P ops K rest)):jj1 P ops K (o::rest) F H:=fun w tm Q h1 h2 hq=>by
 have:=h w tm Q (wpList P ops Q rest) h1 h2 fun tm' w' F' H' k g1 g2 g3=>k w' tm' Q g1 g2 fun tm'' w'' F'' H'' k' g4 g5 g6=>hq tm'' w'' F'' H'' k' g4 g5 (g3.trans g6)
 simpa only [jeQ,wpList] using this
theorem jdv {id:Nat} {Q:Exit→List AV→Hp→Prop} (h:jj1 P ops (Q .normal) ops.toList F H):AWP P (.region id ops false) Q F H:=fun w tm h1 h2=>
 wp_region_list (h w tm (Post Q w H) h1 h2 fun tm' w' F' H' k g1 g2 g3=>⟨tm',F',H',w',rfl,rfl,k,g1,g2,g3.toB⟩)
def jmb (P:Program) (o:Oper) (F:List AV) (H:Hp) (K:AV→Hp→Prop):Prop:=
 ∀ (w:NW) tm,RelW w H→RelF w F tm→∃ (w':NW) (H':Hp) (r:AV),K r H'∧RelW w' H'∧Ext w H w' H'∧
  ((∃ v,(execOp (Act.mk tm []).eval o).run P w.toWorld=.ok (.value v) w'.toWorld∧RelV w' r v)∨((execOp (Act.mk tm []).eval o).run P w.toWorld=.ok .skip w'.toWorld∧r=.any))
theorem jdi {o:Oper} (h:jmb P o F H (fun r H'=>K (jaw F o.dst r) H')) {w:NW} {tm:Array Value} {Q:Exit→Act→World→Prop} {next:Act→World→Prop} (h1:RelW w H) (h2:RelF w F tm)
  (hn:∀ tm' (w':NW) F' H',K F' H'→RelW w' H'→RelF w' F' tm'→Ext w H w' H'→next ⟨tm',[]⟩ w'.toWorld):o.wp P ⟨tm,[]⟩ w.toWorld next Q:=by
 obtain ⟨w',H',r,hk,g1,g2,g3⟩:=h w tm h1 h2
 rcases g3 with ⟨v,hr,hv⟩ | ⟨hr,rfl⟩
 ·simp only [Oper.wp,hr,Oper.upon]
  rw [Act.put_eq]
  exact hn _ w' _ H' hk g1 ((h2.ext g2).put o.dst hv []) g2
 ·simp only [Oper.wp,hr,Oper.upon]
  rw [Act.put_eq]
  exact hn _ w' _ H' hk g1 ((h2.ext g2).put o.dst (.any _) []) g2
theorem ji9 {o:Oper} (hg:o.guard=none) (h:jmb P o F H (fun r H'=>K (jaw F o.dst r) H')):AOp P ops o F H K:=fun w tm Q next h1 h2 hn=>by
 unfold jeQ
 rw [if_pos (by simp [Region.wanted,hg])]
 exact .inl (jdi h h1 h2 hn)
end
-- calls
def ids (l:List (Nat×Row)):List Nat:=l.map (·.1)
def entry (l:List (Nat×Row)):Hp:=⟨ids l,l⟩
def ACalls (P:Program) (f:FuncId) (args:List AV) (l:List (Nat×Row)) (R:AV→List (Nat×Row)→Prop):Prop:=
 ∀ (w:NW) vs,RelW w (entry l)→RelF w args vs→Calls P f vs w.toWorld fun e W=>∃ v r H' w',W=NW.toWorld w'∧e=.returned v∧R r (Hp.l H')∧RelW w' H'∧RelV w' r v∧ExtB w (entry l) w' H'
theorem ACalls.mono {P:Program} {f:FuncId} {args:List AV} {l:List (Nat×Row)} {R R':AV→List (Nat×Row)→Prop} (h:ACalls P f args l R) (hr:∀ r l',R r l'→R' r l'):ACalls P f args l R':=
 fun w vs h1 h2=>(h w vs h1 h2).mono fun _ _ ⟨v,r,H',w',e0,e,k,g⟩=>⟨v,r,H',w',e0,e,hr _ _ k,g⟩
def RLe (r:AV) (H:Hp) (r':AV) (H':Hp):Prop:=∀ (w:NW) v,RelW w H→RelV w r v→∃ w':NW,w'.toWorld=w.toWorld∧RelW w' H'∧RelV w' r' v∧ExtB w H w' H'
theorem RLe.refl (r:AV) (H:Hp):RLe r H r H:=fun w _ h1 h2=>⟨w,rfl,h1,h2,ExtB.refl w H⟩
theorem RLe.trans {a b c:AV} {H H' H'':Hp} (h:RLe a H b H') (k:RLe b H' c H''):RLe a H c H'':=fun w v h1 h2=>by
 obtain ⟨w',e,x,y,z⟩:=h w v h1 h2
 obtain ⟨w'',e',x',y',z'⟩:=k w' v x y
 exact ⟨w'',e'.trans e,x',y',z.trans z'⟩
theorem RLe.of_eq {r r':AV} (H:Hp) (h:r=r'):RLe r H r' H:=h ▸ RLe.refl r H
-- a call, where more is owned than the function is handed
def jdq (l:List (Nat×Row)):List (Nat×Row)→List (Nat×Row)
 | []=>l
 | (i,r)::m=>jdq (jju l i r) m
def NW.only (w:NW) (L:List Nat):NW:={ w with nm:=fun i m=>if L.contains i=true then w.nm i m else none }
theorem jcS:∀ {l:List (Nat×Row)} {i:Nat} {r:Row},jaQ l i=some r→(ids l).contains i=true
 | [],_,_,h=>by cases h
 | (j,s)::l,i,r,h=>by
  simp only [jaQ] at h
  simp only [ids,List.map_cons,List.contains_cons,Bool.or_eq_true,beq_iff_eq]
  split at h
  ·rename_i e;exact .inl e
  ·exact .inr (jcS (l:=l) h)
theorem jd2:∀ {l:List (Nat×Row)} {i:Nat},(ids l).contains i=true→∃ r,jaQ l i=some r
 | [],_,h=>by simp [ids] at h
 | (j,s)::l,i,h=>by
  simp only [ids,List.map_cons,List.contains_cons,Bool.or_eq_true,beq_iff_eq] at h
  simp only [jaQ]
  split
  ·exact ⟨s,rfl⟩
  ·rename_i e;exact jd2 (h.resolve_left e)
theorem jdz:∀ (m l:List (Nat×Row)) (i:Nat),(∀ j r,jaQ m j=some r→True)→(ids m).Nodup→jaQ (jdq l m) i=(jaQ m i).or (jaQ l i)
 | [],l,i,_,_=>by simp [jdq,jaQ]
 | (j,s)::m,l,i,h,hn=>by
  simp only [ids,List.map_cons,List.nodup_cons] at hn
  simp only [jdq]
  rw [jdz m _ i (fun _ _ _=>trivial) hn.2,jc9]
  simp only [jaQ]
  by_cases e:i=j
  ·subst e
   have:jaQ m i=none:=by
    cases e':jaQ m i with
    | none=>rfl
    | some r=>exact (hn.1 (by have:=jcS e';simpa [ids] using this)).elim
   simp [this]
  ·simp [e]
structure Fits (H:Hp) (l:List (Nat×Row)):Prop where
 have_:∀ i r,jaQ l i=some r→H.get i=some r
theorem jeX {P:Program} {f:FuncId} {args:List AV} {H:Hp} {l:List (Nat×Row)} {R:AV→List (Nat×Row)→Prop} {K:AV→Hp→Prop} (hc:ACalls P f args l R) (hfit:∀ i r,jaQ l i=some r→H.get i=some r) (hargs:jaV (fun i=>(ids l).contains i) args=true)
  (hrows:∀ i r,jaQ l i=some r→jaV (fun i=>(ids l).contains i) r.cells=true)
  (hk:∀ r l',R r l'→(∀ i s,jaQ l' i=some s→(ids l).contains i=true∨H.get i=none)∧(ids l').Nodup∧K r ⟨H.B,jdq H.l l'⟩) {w:NW} {vs:Array Value} (h1:RelW w H) (h2:RelF w args vs) :
  Calls P f vs w.toWorld fun e W=>∃ v r H' w',W=NW.toWorld w'∧e=.returned v∧K r H'∧RelW w' H'∧RelV w' r v∧Ext w H w' H':=by
 have nmO:∀ i m,(w.only (ids l)).nm i m=if (ids l).contains i=true then w.nm i m else none:=fun _ _=>rfl
 have kO:Keep (fun i=>(ids l).contains i) w (w.only (ids l)):=⟨Nat.le_refl _,fun _ _ h=>⟨rfl,h⟩,fun i m z hq h=>by rw [nmO,if_pos hq];exact h⟩
 have hw1:RelW (w.only (ids l)) (entry l):=by
  refine { rows:=fun i r hi=>?_,dom:=fun i m z hz=>?_,inj:=fun i m j n b t s t' s' g1 g2=>?_,own:=fun i m b t s h=>?_,fin:=h1.fin,glob:=h1.glob.keep kO }
  ·obtain ⟨g1,z,g2,g3⟩:=h1.rows i r (hfit i r hi)
   refine ⟨g1,z,by rw [nmO,if_pos (jcS (l:=l) hi)];exact g2,?_⟩
   cases z with
   | nil=>exact g3
   | «at» b t s=>
    obtain ⟨e1,cur,e2,e3,e5⟩:=g3
    exact ⟨e1,cur,e2,e3,fun k a v ha hv=>(e5 k a v ha hv).keep kO (jaz (hrows i r hi) ha)⟩
  ·rw [nmO] at hz
   split at hz
   ·rename_i hi
    obtain ⟨r,hr⟩:=jd2 hi
    obtain ⟨r',e1,e2⟩:=h1.dom i m z hz
    rw [hfit i r hr] at e1;cases e1
    exact ⟨r,hr,e2⟩
   ·cases hz
  ·rw [nmO] at g1 g2
   split at g1<;>split at g2
   ·exact h1.inj _ _ _ _ _ _ _ _ _ g1 g2
   ·cases g2
   ·cases g1
   ·cases g1
  ·rw [nmO] at h
   split at h
   ·exact h1.own _ _ _ _ _ h
   ·cases h
 refine (hc (w.only (ids l)) vs hw1 (h2.keep kO hargs)).mono ?_
 rintro e W ⟨v,r,H',w',rfl,rfl,hR,g1,g2,g3⟩
 obtain ⟨k1,k2,k3⟩:=hk r H'.l hR
 have hBl:∀ i,(ids l).contains i=true→∀ m z,w.nm i m=some z→w'.nm i m=some z:=fun i hi m z hz=>g3.names i m z hi (by rw [nmO,if_pos hi];exact hz)
 -- who is the callee's, then
 let cq:Nat→Prop:=fun i=>(ids l).contains i=true∨∃ s,jaQ H'.l i=some s
 have hcq:∀ i,¬ cq i→(ids l).contains i=false∧jaQ H'.l i=none:=fun i h=>⟨by cases e:(ids l).contains i with | true=>exact (h (.inl e)).elim | false=>rfl,by cases e:jaQ H'.l i with | none=>rfl | some s=>exact (h (.inr ⟨s,e⟩)).elim⟩
 classical
 let w2:NW:={ w' with nm:=fun i m=>if cq i then w'.nm i m else w.nm i m }
 have nm2:∀ i m,w2.nm i m=if cq i then w'.nm i m else w.nm i m:=fun _ _=>rfl
 -- the caller's other things
 have hother:∀ i m b t s,¬ cq i→w.nm i m=some (.at b t s)→w'.heap[b]?=w.heap[b]?∧w'.O b∧∀ i m t s,w'.nm i m≠some (.at b t s):=fun i m b t s hi hn=>by
  have hno:∀ i' m' t' s',(w.only (ids l)).nm i' m'≠some (.at b t' s'):=fun i' m' t' s' h=>by
   rw [nmO] at h
   split at h
   ·rename_i hc'
    have:=h1.inj _ _ _ _ _ _ _ _ _ hn h
    subst this
    rw [(hcq _ hi).1] at hc';cases hc'
   ·cases h
  exact g3.rest b (h1.lt hn) (h1.own _ _ _ _ _ hn) hno
 have hnotin:∀ i,¬ cq i→∀ m,w'.nm i m=none:=fun i hi m=>g1.none (by exact (hcq i hi).2) m
 have k2':Keep ji7 w w2:=⟨g3.size,g3.free,fun i m z _ hz=>by
  rw [nm2]
  split
  ·rename_i hi
   rcases hi with hi | ⟨s,hs⟩
   ·exact hBl i hi m z hz
   ·rcases k1 i s hs with hi | hi
    ·exact hBl i hi m z hz
    ·rw [h1.none hi] at hz;cases hz
  ·exact hz⟩
 have k3':Keep ji7 w' w2:=⟨Nat.le_refl _,fun _ _ h=>⟨rfl,h⟩,fun i m z _ hz=>by
  rw [nm2]
  split
  ·exact hz
  ·rename_i hi;rw [hnotin i hi] at hz;cases hz⟩
 have hext:Ext w H w2 ⟨H.B,jdq H.l H'.l⟩:={ k2' with
  os:=g3.os,tape:=g3.tape,output:=g3.output
  rest:=fun b hb hO hno=>by
   obtain ⟨e1,e2,e3⟩:=g3.rest b hb hO fun i m t s h=>by
    rw [nmO] at h
    split at h
    ·exact hno _ _ _ _ h
    ·cases h
   refine ⟨e1,e2,fun i m t s h=>?_⟩
   rw [nm2] at h
   split at h
   ·exact e3 _ _ _ _ h
   ·exact hno _ _ _ _ h
  base:=rfl }
 have hget:∀ i,(Hp.mk H.B (jdq H.l H'.l)).get i=(jaQ H'.l i).or (H.get i):=fun i=>jdz _ _ _ (fun _ _ _=>trivial) k2
 refine ⟨v,r,_,w2,rfl,rfl,k3,{ rows:=fun i s hi=>?_,dom:=fun i m z hz=>?_,inj:=fun i m j n b t s t' s' e1 e2=>?_,own:=fun i m b t s h=>?_,fin:=g1.fin,glob:=h1.glob.keep hext.toKeep },g2.keep k3' (jaC r),hext⟩
 ·rw [hget] at hi
  by_cases hci:cq i
  ·cases e:jaQ H'.l i with
   | some s'=>
    rw [e] at hi
    cases hi
    obtain ⟨e1,z,e2,e3⟩:=g1.rows i s e
    refine ⟨e1,z,by rw [nm2,if_pos hci];exact e2,?_⟩
    cases z with
    | nil=>exact e3
    | «at» b t st=>
     obtain ⟨f1,cur,f2,f3,f5⟩:=e3
     exact ⟨f1,cur,f2,f3,fun k a v ha hv=>(f5 k a v ha hv).keep k3' (jaC a)⟩
   | none=>
    exfalso
    rcases hci with hc' | ⟨s',hs'⟩
    ·obtain ⟨r0,hr0⟩:=jd2 hc'
     obtain ⟨_,z,e2,_⟩:=h1.rows i r0 (hfit i r0 hr0)
     obtain ⟨r',e3,_⟩:=g1.dom i r0.ver z (hBl i hc' _ _ e2)
     rw [show H'.get i=jaQ H'.l i from rfl,e] at e3;cases e3
    ·rw [e] at hs';cases hs'
  ·rw [(hcq i hci).2,Option.none_or] at hi
   obtain ⟨e1,z,e2,e3⟩:=h1.rows i s hi
   refine ⟨e1,z,by rw [nm2,if_neg hci];exact e2,e3.ext hext fun b t st e=>?_⟩
   subst e
   exact (hother i _ b t st hci e2).1
 ·rw [nm2] at hz
  rw [hget]
  split at hz
  ·obtain ⟨s,e1,e2⟩:=g1.dom i m z hz
   exact ⟨s,by rw [show jaQ H'.l i=some s from e1];rfl,e2⟩
  ·rename_i hci
   rw [(hcq i hci).2,Option.none_or]
   exact h1.dom i m z hz
 ·rw [nm2] at e1 e2
  split at e1<;>split at e2
  ·exact g1.inj _ _ _ _ _ _ _ _ _ e1 e2
  ·rename_i _ hj;exact ((hother _ _ _ _ _ hj e2).2.2 _ _ _ _ e1).elim
  ·rename_i hi _;exact ((hother _ _ _ _ _ hi e1).2.2 _ _ _ _ e2).elim
  ·exact h1.inj _ _ _ _ _ _ _ _ _ e1 e2
 ·rw [nm2] at h
  split at h
  ·exact g1.own _ _ _ _ _ h
  ·rename_i hi;exact (hother _ _ _ _ _ hi h).2.1
def jba (P:Program) (t:TypeId):Option Nat:=(P.info? t).map (·.size)
def jal (P:Program) (t:TypeId):Option Bool:=(P.underlying t).map fun | .struct _ | .array _ _=>true | _=>false
def jgL (P:Program) (t:TypeId) (f:Nat):Option Nat:=match P.underlying t with
 | some (.struct fs)=>match fs[f]? with
  | some fd=>match jba P fd.type with
   | some (_+1)=>some fd.offset
   | _=>none
  | none=>none
 | _=>none
def elT (P:Program) (t:TypeId):Option TypeId:=match P.underlying t with
 | some (.slice e)=>some e
 | _=>none
def jaG (P:Program) (t:TypeId):Option (List Value):=((P.info? t).bind (·.zero)).map fun v=>v.cells.toList
def AV.one:AV→Bool
 | .raw v=>v.oneCell'
 | .sl ..=>true
 | .ip _=>true
 | .pt ..=>true
 | .rs ..=>true
 | .rc ..=>true
 | .rv ..=>true
 | .mr _=>true
 | .clo ..=>true
 | .bd ..=>true
 | .ifc ..=>true
 | .mv ..=>true
 | _=>false
def ones (l:List AV):Bool:=l.all AV.one
def AV.cells:AV→List AV
 | .agg cs=>cs
 | .raw (.agg vs)=>vs.toList.map .raw
 | v=>[v]
def jgs (sz:Nat) (css:List (List AV)):Prop:=∀ cs∈css,cs.length=sz∧ones cs=true
def jaR (H:Hp):AV→Option (Prop×List AV)
 | .ip cs=>some (True,cs)
 | .pt i m k j=>match H.get i with
  | some (.var _ cs)=>some (m=0,cs.drop j)
  | some (.vec _ _ css)=>some (m=css.length∧k < css.length,(css.getD k []).drop j)
  | some (.mp _ _)=>none
  | none=>none
 | _=>none
theorem jaf {sz:Nat}:∀ {l:List (List AV)},(∀ x∈l,x.length=sz)→l.flatten.length=l.length * sz
 | [],_=>by simp
 | x::l,h=>by
  have ih:=jaf (l:=l) (fun y hy=>h y (by simp [hy]))
  have hx:=h x (by simp)
  simp only [List.flatten_cons,List.length_append,hx,ih,List.length_cons,Nat.add_mul,Nat.one_mul]
  omega
theorem jar {sz:Nat}:∀ {l:List (List AV)} {i j:Nat},(∀ x∈l,x.length=sz)→i < l.length→j < sz→l.flatten[i * sz+j]?=(l.getD i [])[j]?
 | [],i,j,_,h,_=>by simp at h
 | x::l,i,j,hx,hi,hj=>by
  have hxl:=hx x (by simp)
  cases i with
  | zero=>simp only [List.flatten_cons,Nat.zero_mul,Nat.zero_add,List.getD_cons_zero];rw [List.getElem?_append_left (by omega)]
  | succ i=>
   simp only [List.flatten_cons,List.getD_cons_succ]
   rw [List.getElem?_append_right (by rw [Nat.add_mul];omega),hxl,show (i+1) * sz+j - sz=i * sz+j by rw [Nat.add_mul];omega]
   exact jar (fun y hy=>hx y (by simp [hy])) (by simpa using hi) hj
theorem jfJ {i j n sz:Nat} (hi:i < n) (hj:j < sz):i * sz+j < n * sz:=by
 have:=Nat.mul_le_mul_right sz (show i+1≤n from hi)
 rw [Nat.add_mul] at this;omega
theorem jbf {k n sz:Nat} (h:k < n * sz):∃ i j,i < n∧j < sz∧k=i * sz+j:=by
 have hz:0 < sz:=by rcases Nat.eq_zero_or_pos sz with rfl | h'<;>simp_all
 exact ⟨k / sz,k % sz,by rw [Nat.div_lt_iff_lt_mul hz];exact h,Nat.mod_lt _ hz,by rw [Nat.mul_comm];exact (Nat.div_add_mod k sz).symm⟩
theorem jbI {sz:Nat} {css:List (List AV)} (h:∀ cs∈css,cs.length=sz) {k:Nat} (hk:k < css.length):(css.getD k []).length=sz:=by
 have:css.getD k []=css[k]:=by simp [hk]
 rw [this];exact h _ (List.getElem_mem hk)
section
variable {P:Program} {w:NW} {H:Hp}
theorem RelV.one {a:AV} {v:Value} (h:RelV w a v) (h1:a.one=true):v.oneCell'=true:=by
 cases h<;>first | exact h1 | rfl | simp [AV.one] at h1
theorem jcn {w:World} (g i:Nat) (cur:Array Value) (t:TypeId) (fr:Nat×Nat) (hg:w.heap[g]?=some (.cells cur t fr)):w.cell? ⟨g,i,none⟩=cur[i]?:=by simp [World.cell?,hg]
theorem jc1 {a:AV} {va:Value} {c:Prop} {cs:List AV} (h:RelV w a va) (hw:RelW w H) (hc:jaR H a=some (c,cs)) (hcc:c) :
  ∃ (ad:Addr) (vs:Nat→Value),va=.pointer (some ad)∧(∀ j,j < cs.length→w.cell? (ad.add j)=some (vs j))∧∀ (j:Nat) u,cs[j]?=some u→RelV w u (vs j):=by
 unfold jaR at hc
 split at hc
 ·cases hc
  cases h with
  | ip _ ad vs hb hH hcell hr=>exact ⟨ad,vs,rfl,hcell,fun j u hu=>(hr j u hu).dress⟩
 ·rename_i i m k j
  cases h with
  | pt _ _ _ _ b t s hn=>
  split at hc
  ·rename_i ty cs' hi
   cases hc
   subst hcc
   obtain ⟨hok,z,hz,hrow⟩:=hw.rows i _ hi
   have:z=.at b t s:=by have hz:w.nm i 0=some z:=hz;rw [hn] at hz;cases hz;rfl
   subst this
   obtain ⟨rfl,cur,hh,⟨hs,hl⟩,hr⟩:=hrow
   have hsr:(Row.var ty cs').stride=0:=rfl
   refine ⟨⟨b,k * (Row.var ty cs').stride+j,none⟩,fun q=>cur.getD (j+q) undef,rfl,fun q hq=>?_,fun q u hu=>?_⟩
   ·rw [jak,hsr,Nat.mul_zero,Nat.zero_add,jcn b _ cur _ (0,0) hh]
    simp only [List.length_drop] at hq
    have hl:cs'.length≤t:=hl
    have:j+q < cur.size:=by omega
    simp [this]
   ·rw [List.getElem?_drop] at hu
    have hlt:j+q < cs'.length:=(List.getElem?_eq_some_iff.1 hu).1
    have hl:cs'.length≤t:=hl
    have:j+q < cur.size:=by omega
    exact hr _ _ _ hu (by simp [this])
  ·rename_i e sz css hi
   cases hc
   obtain ⟨rfl,hk⟩:=hcc
   obtain ⟨hok,z,hz,hrow⟩:=hw.rows i _ hi
   have:z=.at b t s:=by have hz:w.nm i css.length=some z:=hz;rw [hn] at hz;cases hz;rfl
   subst this
   obtain ⟨hs_,cur,hh,⟨hs,hl⟩,hr⟩:=hrow
   have hs_:sz=s:=hs_.symm
   subst hs_
   have hsr:(Row.vec e sz css).stride=sz:=rfl
   have hlen:=jbI hok.2 hk
   have hfl:(Row.vec e sz css).cells.length=css.length * sz:=jaf hok.2
   refine ⟨⟨b,k * sz+j,none⟩,fun q=>cur.getD (k * sz+(j+q)) undef,rfl,fun q hq=>?_,fun q u hu=>?_⟩
   ·simp only [List.length_drop,hlen] at hq
    rw [jak,jcn b _ cur _ (0,0) hh]
    have:=jfJ hk (show j+q < sz by omega)
    have:k * sz+(j+q) < cur.size:=by omega
    rw [Nat.add_assoc]
    simp [this]
   ·rw [List.getElem?_drop] at hu
    have hlt:j+q < sz:=by have:=(List.getElem?_eq_some_iff.1 hu).1;omega
    have h3:=jfJ hk hlt
    refine hr (k * sz+(j+q)) u _ ?_ ?_
    ·show css.flatten[k * sz+(j+q)]?=some u
     rw [jar hok.2 hk hlt];exact hu
    ·have:k * sz+(j+q) < cur.size:=by omega
     simp [this]
  ·cases hc
  ·cases hc
 ·cases hc
theorem jbj {w:World} {t:TypeId} {b:Bool} (h:jal P t=some b):(isAgg t).run P w=.ok b w:=by
 unfold jal at h
 cases hu:P.underlying t with
 | none=>rw [hu] at h;cases h
 | some d=>
  rw [hu] at h
  simp only [Option.map_some,Option.some.injEq] at h
  simp only [isAgg,Sem.run_bind,run_underlying hu,Result.andThen_ok]
  subst h
  cases d<;>rfl
theorem jag {w:World} {t:TypeId} {k:Nat} (h:jba P t=some k):(sizeOf t).run P w=.ok k w:=by
 unfold jba at h
 cases hi:P.info? t with
 | none=>rw [hi] at h;cases h
 | some i=>
  rw [hi] at h
  simp only [Option.map_some,Option.some.injEq] at h
  simp [sizeOf,typeInfo,hi,h]
def jcd (ag:Bool) (k:Nat) (cs:List AV):AV:=if ag then .agg (cs.take k) else cs.getD 0 .any
theorem jcc {t:TypeId} {ad:Addr} {cs:List AV} {vs:Nat→Value} {ag:Bool} {k:Nat} (hag:jal P t=some ag) (hsz:jba P t=some k) (hk:k≤cs.length) (hk1:1≤cs.length)
  (hcell:∀ j,j < cs.length→w.cell? (ad.add j)=some (vs j)) (hr:∀ (j:Nat) u,cs[j]?=some u→RelV w u (vs j)) :
  ∃ v,(loadVar t ad).run P w.toWorld=.ok v w.toWorld∧RelV w (jcd ag k cs) v:=by
 simp only [loadVar,Sem.run_bind,jbj hag,Result.andThen_ok]
 cases ag with
 | false=>
  simp only [Bool.false_eq_true,if_false,jcd]
  have h0:=hcell 0 (by omega)
  rw [jcW] at h0
  refine ⟨vs 0,by rw [run_load];simp [h0],?_⟩
  have:cs[0]?=some (cs.getD 0 .any):=by simp [List.getElem?_eq_getElem (show 0 < cs.length by omega)]
  exact hr 0 _ this
 | true=>
  simp only [if_true,jcd]
  simp only [Sem.run_bind,jag hsz,Result.andThen_ok,run_loadCells w.toWorld ad k vs (fun j hj=>hcell j (by omega)),Sem.run_pure]
  refine ⟨_,rfl,.agg _ _ (by simp;omega) fun i a v ha hv=>?_⟩
  have hi:i < k:=by
   have:=(List.getElem?_eq_some_iff.1 ha).1
   simp at this;omega
  rw [List.getElem?_take,if_pos hi] at ha
  have hv':v=vs i:=by
   have:(List.map vs (List.range k)).toArray[i]?=some (vs i):=by simp [hi]
   rw [this] at hv
   cases hv;rfl
  subst hv'
  exact hr i a ha
theorem jcC {t:TypeId} {a:AV} {va:Value} {c:Prop} {cs:List AV} {ag:Bool} {k:Nat} (h:RelV w a va) (hw:RelW w H) (hc:jaR H a=some (c,cs)) (hcc:c) (hag:jal P t=some ag) (hsz:jba P t=some k) (hk:k≤cs.length) (hk1:1≤cs.length) :
  ∃ v,(Instr.loadAt t va).run P w.toWorld=.ok v w.toWorld∧RelV w (jcd ag k cs) v:=by
 obtain ⟨ad,vs,rfl,hcell,hr⟩:=jc1 h hw hc hcc
 obtain ⟨v,h1,h2⟩:=jcc hag hsz hk hk1 hcell hr
 exact ⟨v,by simpa [Instr.loadAt,Instr.sureAddr] using h1,h2⟩
theorem RelV.cells_rel {a:AV} {v:Value} (h:RelV w a v) (h1:ones a.cells=true):RelL w a.cells v.cells.toList:=by
 unfold AV.cells at *
 split
 ·rename_i cs
  cases h with
  | agg _ vs hl hr=>exact ⟨by simpa [Value.cells] using hl,fun i a v ha hv=>hr i a v ha (by simpa [Value.cells] using hv)⟩
 ·rename_i vs
  cases h
  refine ⟨by simp [Value.cells],fun i a v ha hv=>?_⟩
  simp only [List.getElem?_map,Option.map_eq_some_iff] at ha
  obtain ⟨x,hx,rfl⟩:=ha
  simp only [Value.cells] at hv
  rw [hx] at hv
  cases hv
  exact .raw _
 ·rename_i hna hnr
  have h1':a.one=true:=by simpa [ones] using h1
  have ho:=h.one h1'
  have hcv:v.cells=#[v]:=by
   cases v<;>first | rfl | simp [Value.oneCell'] at ho
  rw [hcv]
  refine ⟨rfl,fun i a' v' ha hv=>?_⟩
  cases i with
  | zero=>simp at ha hv;subst ha hv;exact h
  | succ i=>simp at ha
theorem RelL.ones {cs:List AV} {vs:List Value} (h:RelL w cs vs) (h1:ones cs=true):∀ v∈vs,v.oneCell'=true:=by
 intro v hv
 obtain ⟨i,hi⟩:=List.getElem?_of_mem hv
 have hlt:i < cs.length:=by rw [h.1];exact (List.getElem?_eq_some_iff.1 hi).1
 have:=h.2 i cs[i] v (List.getElem?_eq_getElem hlt) hi
 exact this.one (by simp only [Gd.ones,List.all_eq_true] at h1;exact h1 _ (List.getElem_mem hlt))
def jaE (cells:List AV) (off:Nat) (new:List AV):List AV:=cells.take off++new++cells.drop (off+new.length)
theorem jch {cells new:List AV} {off:Nat} (h:off+new.length≤cells.length):(jaE cells off new).length=cells.length:=by
 simp [jaE];omega
theorem jdJ {cells new:List AV} {off p:Nat} (h:off≤cells.length):(jaE cells off new)[p]?=if off≤p∧p < off+new.length then new[p - off]? else cells[p]?:=by
 unfold jaE
 rcases Nat.lt_or_ge p off with h1 | h1
 ·rw [if_neg (by omega),List.append_assoc,List.getElem?_append_left (by simp;omega),List.getElem?_take,if_pos h1]
 ·rcases Nat.lt_or_ge p (off+new.length) with h2 | h2
  ·rw [if_pos ⟨h1,h2⟩,List.append_assoc,List.getElem?_append_right (by simp;omega),List.getElem?_append_left (by simp;omega)]
   congr 1;simp;omega
  ·rw [if_neg (by omega),List.getElem?_append_right (by simp;omega)]
   simp only [List.length_append,List.length_take,List.getElem?_drop]
   congr 1;omega
theorem jaH {i b t off:Nat} {r r':Row} {new:List AV} {vs:List Value} (hw:RelW w H) (hi:H.get i=some r) (hnm:w.nm i r.ver=some (.at b t r.stride)) (hn:RelL w new vs) (h1:Gd.ones new=true) (hfit:off+new.length≤t)
  (hi1:r.isC=true) (hi2:r'.isC=true) (hs:r'.stride=r.stride) (he:r'.elem=r.elem) (hv:r.ver≤r'.ver) (hok:r'.ok) (hle:r'.cells.length≤t) (hcells:∀ (p:Nat) a,r'.cells[p]?=some a→if off≤p∧p < off+new.length then new[p - off]?=some a else r.cells[p]?=some a) :
  ∃ w':NW,(storeCells ⟨b,off,none⟩ vs).run P w.toWorld=.ok () w'.toWorld∧RelW w' (H.put i r')∧Ext w H w' (H.put i r')∧w'.nm i r'.ver=some (.at b t r.stride):=by
 obtain ⟨_,z,hz,hrow⟩:=hw.rows i r hi
 rw [hnm] at hz
 cases hz
 obtain ⟨_,cur,hh,hfit',hr⟩:=hrow
 rw [Row.fit_c hi1] at hfit'
 obtain ⟨hsz,hl⟩:=hfit'
 rw [Row.obj_c hi1] at hh
 have hlen:=hn.1
 have hrun:=run_storeCells_at P b off r.elem vs 0 cur w.toWorld hh (by omega) (hn.ones h1)
 rw [Nat.add_zero] at hrun
 generalize hcur:(cur.toList.take off++vs++cur.toList.drop (off+vs.length)).toArray=cur' at hrun
 have hsz':cur'.size=t:=by
  subst hcur
  simp
  omega
 have hheap:(w.toWorld.setRow b cur').heap[b]?=some (.cells cur' r.elem (0,0)):=setRow_heap w.toWorld b cur cur' r.elem (0,0) hh
 have hoth:∀ c,c≠b→(w.toWorld.setRow b cur').heap[c]?=w.heap[c]?:=fun c hc=>setRow_other w.toWorld b c cur' hc
 have hsame:(w.toWorld.setRow b cur').heap.size=w.heap.size:=size_setRow w.toWorld b cur'
 obtain ⟨g1,g2⟩:=jey (W:=w.toWorld.setRow b cur') hw hi hnm hs hv hok rfl rfl rfl hsame hoth cur' (by rw [Row.obj_c hi2,he];exact hheap) (by rw [Row.fit_c hi2];exact ⟨hsz',hle⟩) (fun p a v ha hv=>by
  have hp:=hcells p a ha
  have hpl:p < t:=by have:=(List.getElem?_eq_some_iff.1 ha).1;omega
  subst hcur
  simp only [List.getElem?_toArray] at hv
  split at hp
  ·rename_i hin
   rw [List.append_assoc,List.getElem?_append_right (by simp;omega),List.getElem?_append_left (by simp;omega)] at hv
   simp only [List.length_take,Array.length_toList] at hv
   rw [show p - min off cur.size=p - off by omega] at hv
   exact hn.2 _ a v hp hv
  ·rename_i hin
   refine hr p a v hp ?_
   rcases Nat.lt_or_ge p off with h1 | h1
   ·rw [List.append_assoc,List.getElem?_append_left (by simp;omega),List.getElem?_take,if_pos h1] at hv
    simpa using hv
   ·rw [List.getElem?_append_right (by simp;omega)] at hv
    simp only [List.length_append,List.length_take,Array.length_toList,List.getElem?_drop] at hv
    rw [show off+vs.length+(p - (min off cur.size+vs.length))=p by omega] at hv
    simpa using hv)
 exact ⟨_,hrun,g1,g2,NW.name_same _ _ _ _⟩
def jeH (r:Row) (k j:Nat) (new:List AV):Row:=match r with
 | .var t cs=>.var t (jaE cs j new)
 | .vec e sz css=>.vec e sz (css.set k (jaE (css.getD k []) j new))
 | .mp ks vs=>.mp ks vs
def jbN (r:Row) (m k j n:Nat):Prop:=match r with
 | .var _ cs=>m=0∧j+n≤cs.length
 | .vec _ _ css=>m=css.length∧k < css.length∧j+n≤(css.getD k []).length
 | .mp _ _=>False
theorem jd9 {ty:TypeId} {i m k j n:Nat} {r:Row} {x:AV} {v va:Value} (hw:RelW w H) (ha:RelV w (.pt i m k j) va) (hi:H.get i=some r) (hx:RelV w x v) (h1:Gd.ones x.cells=true) (hsz:jba P ty=some n) (hn:x.cells.length=n) (hst:jbN r m k j n) :
  ∃ w':NW,(Instr.storeAt ty va v).run P w.toWorld=.ok () w'.toWorld∧RelW w' (H.put i (jeH r k j x.cells))∧Ext w H w' (H.put i (jeH r k j x.cells)):=by
 have hc:=hx.cells_rel h1
 have hsize:v.cells.size=n:=by have:=hc.1;simp at this;omega
 have run:∀ {W:World} (b off:Nat),(storeCells ⟨b,off,none⟩ v.cells.toList).run P w.toWorld=.ok () W→(Instr.storeAt ty (.pointer (some ⟨b,off,none⟩)) v).run P w.toWorld=.ok () W:=fun b off hrun=>by
  simp only [Instr.storeAt,Instr.sureAddr,pure_bind,storeVar,Sem.run_bind,jag hsz,Result.andThen_ok,hsize,ne_eq,not_true_eq_false,if_false]
  simpa using hrun
 obtain ⟨hok,z,hz,hrow⟩:=hw.rows i r hi
 cases ha with
 | pt _ _ _ _ b t s hnm=>
 cases r with
 | var ty' cs=>
  obtain ⟨rfl,hfit⟩:=hst
  have hz:w.nm i 0=some z:=hz
  rw [hnm] at hz;cases hz
  obtain ⟨rfl,cur,hh,⟨hsz',hl⟩,hr⟩:=hrow
  have hl:cs.length≤t:=hl
  have hs0:(Row.var ty' cs).stride=0:=rfl
  have hsp:=jch (cells:=cs) (new:=x.cells) (off:=j) (by omega)
  obtain ⟨w',hrun,g1,g2,_⟩:=jaH (P:=P) (off:=j) (r':=.var ty' (jaE cs j x.cells)) hw hi hnm hc h1 (by omega) rfl rfl rfl rfl (Nat.le_refl _) trivial (by show (jaE cs j x.cells).length≤t;omega) (fun p a hp=>by
   have hp:(jaE cs j x.cells)[p]?=some a:=hp
   rw [jdJ (by omega)] at hp
   split at hp
   ·rename_i h;rw [if_pos h];exact hp
   ·rename_i h;rw [if_neg h];exact hp)
  refine ⟨w',run _ _ ?_,g1,g2⟩
  rw [hs0,Nat.mul_zero,Nat.zero_add];exact hrun
 | vec e sz css=>
  obtain ⟨rfl,hk,hfit⟩:=hst
  have hz:w.nm i css.length=some z:=hz
  rw [hnm] at hz;cases hz
  obtain ⟨hs_,cur,hh,⟨hsz',hl⟩,hr⟩:=hrow
  have hs_:sz=s:=hs_.symm
  subst hs_
  have hs0:(Row.vec e sz css).stride=sz:=rfl
  have hlen:=jbI hok.2 hk
  have hfl:(Row.vec e sz css).cells.length=css.length * sz:=jaf hok.2
  have hlt:j+n≤sz:=by omega
  have hmul:=Nat.mul_le_mul_right sz (show k+1≤css.length from hk)
  rw [Nat.add_mul,Nat.one_mul] at hmul
  have hsp:=jch (cells:=css.getD k []) (new:=x.cells) (off:=j) (by omega)
  have hok':∀ cs∈css.set k (jaE (css.getD k []) j x.cells),cs.length=sz:=fun cs h=>by
   rcases List.mem_or_eq_of_mem_set h with h | h
   ·exact hok.2 _ h
   ·rw [h,hsp,hlen]
  have hfl':(css.set k (jaE (css.getD k []) j x.cells)).flatten.length=css.length * sz:=by rw [jaf hok',List.length_set]
  obtain ⟨w',hrun,g1,g2,_⟩:=jaH (P:=P) (off:=k * sz+j) (r':=.vec e sz (css.set k (jaE (css.getD k []) j x.cells))) hw hi hnm hc h1 (by omega) rfl rfl rfl rfl (by show css.length≤(css.set _ _).length;simp) ⟨hok.1,hok'⟩ (by show (List.flatten _).length≤t;omega) (fun p a hp=>by
   have hp:(css.set k (jaE (css.getD k []) j x.cells)).flatten[p]?=some a:=hp
   have hpl:p < css.length * sz:=by have:=(List.getElem?_eq_some_iff.1 hp).1;omega
   obtain ⟨q,l,hq,hl',rfl⟩:=jbf hpl
   rw [jar hok' (by simpa using hq) hl'] at hp
   show if k * sz+j≤q * sz+l∧q * sz+l < k * sz+j+x.cells.length then _ else css.flatten[q * sz+l]?=some a
   rw [jar hok.2 hq hl']
   by_cases e':q=k
   ·subst e'
    have e1:(css.set q (jaE (css.getD q []) j x.cells)).getD q []=jaE (css.getD q []) j x.cells:=by simp [hk]
    rw [e1,jdJ (by omega)] at hp
    split at hp
    ·rename_i h
     rw [if_pos (by omega),show q * sz+l - (q * sz+j)=l - j by omega];exact hp
    ·rename_i h
     rw [if_neg (by omega)];exact hp
   ·have e1:(css.set k (jaE (css.getD k []) j x.cells)).getD q []=css.getD q []:=by simp [List.getElem?_set,Ne.symm e']
    rw [e1] at hp
    rw [if_neg]
    ·exact hp
    ·rintro ⟨h1,h2⟩
     apply e'
     rcases Nat.lt_trichotomy q k with h | h | h
     ·have:=Nat.mul_le_mul_right sz (show q+1≤k from h)
      rw [Nat.add_mul] at this;omega
     ·exact h
     ·have:=Nat.mul_le_mul_right sz (show k+1≤q from h)
      rw [Nat.add_mul] at this;omega)
  exact ⟨w',run _ _ hrun,g1,g2⟩
 | mp ks vs=>exact hst.elim
theorem jet {t:TypeId} {x:AV} {v:Value} {i:Nat} (hw:RelW w H) (hi:H.get i=none) (hx:RelV w x v) (h1:Gd.ones x.cells=true) :
  ∃ (u:Value) (w':NW),(Instr.box t v).run P w.toWorld=.ok u w'.toWorld∧RelV w' (.pt i 0 0 0) u∧RelW w' (H.put i (.var t x.cells))∧Ext w H w' (H.put i (.var t x.cells)):=by
 have hc:=hx.cells_rel h1
 have hlen:x.cells.length=v.cells.size:=by have:=hc.1;simpa using this
 obtain ⟨g1,g2⟩:=jcs (row:=.var t x.cells) hw (hw.none hi _) (fun r' hr=>by rw [hi] at hr;cases hr) trivial v.cells ⟨rfl,by show x.cells.length≤_;omega⟩ (fun k a u ha hu=>hc.2 k a u ha (by simpa using hu))
 refine ⟨.pointer (some ⟨w.heap.size,0,none⟩),_,by simp [Instr.box,newVar,newRow];rfl,?_,g1,g2⟩
 have:=RelV.pt (w:=((w.to (w.alloc ((Row.var t x.cells).obj v.cells))).seize w.heap.size).name i (Row.var t x.cells).ver (.at w.heap.size v.cells.size (Row.var t x.cells).stride)) i 0 0 0 w.heap.size v.cells.size 0 (NW.name_same _ _ _ _)
 simpa using this
theorem jbQ {w:World} {t:TypeId} {zs:List Value} (h:jaG P t=some zs):∃ z:Value,(zeroValue t).run P w=.ok z w∧z.cells.toList=zs:=by
 unfold jaG at h
 cases hi:P.info? t with
 | none=>rw [hi] at h;cases h
 | some i=>
  rw [hi] at h
  simp only [Option.bind_some,Option.map_eq_some_iff] at h
  obtain ⟨z,hz,rfl⟩:=h
  exact ⟨z,by simp [zeroValue,typeInfo,hi,hz],rfl⟩
theorem jeY {t:TypeId} {zs:List Value} {i:Nat} (hw:RelW w H) (hi:H.get i=none) (hz:jaG P t=some zs) :
  ∃ (u:Value) (w':NW),(Instr.alloc t true (.tuple #[])).run P w.toWorld=.ok u w'.toWorld∧RelV w' (.pt i 0 0 0) u∧RelW w' (H.put i (.var t (zs.map .raw)))∧Ext w H w' (H.put i (.var t (zs.map .raw))):=by
 obtain ⟨z,hrun,rfl⟩:=jbQ (w:=w.toWorld) hz
 obtain ⟨g1,g2⟩:=jcs (row:=.var t (z.cells.toList.map .raw)) hw (hw.none hi _) (fun r' hr=>by rw [hi] at hr;cases hr) trivial z.cells ⟨rfl,by show (z.cells.toList.map AV.raw).length≤_;simp⟩ (fun k a u ha hu=>by
  have ha:(z.cells.toList.map AV.raw)[k]?=some a:=ha
  simp only [List.getElem?_map,Array.getElem?_toList,hu,Option.map_some,Option.some.injEq] at ha
  subst ha
  exact .raw _)
 refine ⟨.pointer (some ⟨w.heap.size,0,none⟩),_,by simp [Instr.alloc,hrun,newVar,newRow];rfl,?_,g1,g2⟩
 have:=RelV.pt (w:=((w.to (w.alloc ((Row.var t (z.cells.toList.map .raw)).obj z.cells))).seize w.heap.size).name i (Row.var t (z.cells.toList.map .raw)).ver (.at w.heap.size z.cells.size (Row.var t (z.cells.toList.map .raw)).stride)) i 0 0 0 w.heap.size z.cells.size 0 (NW.name_same _ _ _ _)
 simpa using this
end
abbrev PA:=Prop×AV
def jaP:PA:=(False,.any)
def jcV (P:Program) (w:NW) (s:Sem Value) (q:PA):Prop:=q.1→∃ v,s.run P w.toWorld=.ok v w.toWorld∧RelV w q.2 v
theorem jgN {P:Program} {w:NW} {s:Sem Value}:jcV P w s jaP:=fun h=>h.elim
def unG:AV→Bool×AV
 | .gd p v=>(p,v)
 | v=>(true,v)
def jjb (c x y:Bool):Bool:=if c then x else y
def jdG (c a b:AV):PA:=match c with
 | .raw (.bool true)=>((unG a).1=true,(unG a).2)
 | .raw (.bool false)=>((unG b).1=true,(unG b).2)
 | _=>jaP
def jaT (c a b:AV):PA:=match c,unG a,unG b with
 | .raw (.bool c),(pa,.raw (.bool x)),(pb,.raw (.bool y))=>((c=true→pa=true)∧(c=false→pb=true),.raw (.bool (jjb c x y)))
 | c,_,_=>jdG c a b
def je9 (P:Program) (t:TypeId) (m:String):Option FuncId:=match P.info? t,P.underlying t with
 | some ti,some (.pointer _)=>match ti.methods.find? (·.name == m) with
  | some r=>if r.path.isEmpty then match r.func with
   | some (f,true)=>some f
   | _=>none
   else none
  | none=>none
 | _,_=>none
def jiR (P:Program):AV→PA
 | .mv m (.ifc t x)=>((je9 P t m).isSome=true,.mv m (.ifc t x))
 | .ip cs=>(True,.ip cs)
 | .pt i m k j=>(True,.pt i m k j)
 | .raw (.pointer (some a))=>(True,.raw (.pointer (some a)))
 | .raw (.func (.func f) x y)=>(True,.raw (.func (.func f) x y))
 | .raw (.iface t v)=>(True,.raw (.iface t v))
 | .raw (.slice a n c)=>(True,.raw (.slice a n c))
 | .raw (.map (some r))=>(True,.raw (.map (some r)))
 | _=>jaP
def jcy (op:BinOp) (k:IntKind) (x y:Int):Int:=
 let a:=BitVec.ofInt k.bits x
 let b:=BitVec.ofInt k.bits y
 match op with
 | .and=>k.wrap (a &&& b).toNat
 | .or=>k.wrap (a ||| b).toNat
 | .xor=>k.wrap (a ^^^ b).toNat
 | _=>k.wrap (a &&& ~~~b).toNat
def jiQ (op:BinOp) (k:IntKind) (a:Int) (k':IntKind) (b:Int):PA:=match op with
 | .add=>(k=k',.raw (.int k (k.wrap (a+b))))
 | .sub=>(k=k',.raw (.int k (k.wrap (a - b))))
 | .mul=>(k=k',.raw (.int k (k.wrap (a * b))))
 | .quo=>(k=k'∧b≠0,.raw (.int k (k.wrap (a.tdiv b))))
 | .rem=>(k=k'∧b≠0,.raw (.int k (a.tmod b)))
 | .and=>(k=k',.raw (.int k (jcy .and k a b)))
 | .or=>(k=k',.raw (.int k (jcy .or k a b)))
 | .xor=>(k=k',.raw (.int k (jcy .xor k a b)))
 | .andNot=>(k=k',.raw (.int k (jcy .andNot k a b)))
 | .shl=>(0≤b,.raw (.int k (k.wrap (a * 2 ^ (min b.toNat k.bits)))))
 | .shr=>(0≤b,.raw (.int k (a.fdiv (2 ^ (min b.toNat k.bits)))))
 | .eql=>(k=k',.raw (.bool (decide (a=b))))
 | .neq=>(k=k',.raw (.bool (!decide (a=b))))
 | .lss=>(k=k',.raw (.bool (decide (a < b))))
 | .leq=>(k=k',.raw (.bool (decide (a≤b))))
 | .gtr=>(k=k',.raw (.bool (decide (b < a))))
 | .geq=>(k=k',.raw (.bool (decide (b≤a))))
def jhK (op:BinOp) (a b:ByteArray):PA:=match op with
 | .add=>(a.size+b.size≤9223372036854775807,.raw (.string (a++b)))
 | .eql=>(True,.raw (.bool (decide (a=b))))
 | .neq=>(True,.raw (.bool (!decide (a=b))))
 | .lss=>(True,.raw (.bool (Op.bytesLess a.toList b.toList)))
 | .gtr=>(True,.raw (.bool (!(Op.bytesLess a.toList b.toList || decide (a=b)))))
 | .leq=>(True,.raw (.bool (Op.bytesLess a.toList b.toList || decide (a=b))))
 | .geq=>(True,.raw (.bool (!(Op.bytesLess a.toList b.toList))))
 | _=>jaP
def eqL:List AV→List AV→Bool
 | [],[]=>true
 | .raw (.int _ a)::l,.raw (.int _ b)::m=>decide (a=b) && eqL l m
 | .raw (.string a)::l,.raw (.string b)::m=>decide (a=b) && eqL l m
 | .raw (.bool a)::l,.raw (.bool b)::m=>(a == b) && eqL l m
 | _,_=>false
def jc8 (P:Program) (t:TypeId):Bool:=match P.underlying t with
 | some (.pointer _)=>true
 | _=>false
def jd1 (P:Program) (t:TypeId):Bool:=match P.underlying t with
 | some (.interface _)=>true
 | _=>false
def jd0 (P:Program) (t:TypeId):Bool:=match P.underlying t with
 | some .bool=>true
 | _=>false
def jbW (P:Program) (t:TypeId):Bool:=match P.underlying t with
 | some .string=>true
 | _=>false
def jai (P:Program) (t:TypeId):Bool:=match P.underlying t with
 | some (.slice _)=>true
 | _=>false
inductive LK where
 | int (k:IntKind) | str | bool
 deriving DecidableEq
def ja6:AV→Option LK
 | .raw (.int k _)=>some (.int k)
 | .raw (.string _)=>some .str
 | .raw (.bool _)=>some .bool
 | _=>none
def jbh (P:Program) (leafK:TypeId→Option (List LK)):Nat→List Field→Option (List LK)
 | _,[]=>some []
 | off, f :: fs => if f.name ≠ "_" ∧ f.offset = off then match leafK f.type, jba P f.type with
   | some ks,some k=>if ks.length=k then (jbh P leafK (off+k) fs).map (ks++·) else none
   | _,_=>none
  else none
def jaX (P:Program):Nat→TypeId→Option (List LK)
 | 0,_=>none
 | d+1,t=>match P.underlying t with
  | some (.int k)=>some [.int k]
  | some .string=>some [.str]
  | some .bool=>some [.bool]
  | some (.struct fs)=>if P.stoodInHeld t then none else jbh P (jaX P d) 0 fs.toList
  | _=>none
def je2 (P:Program) (t:TypeId):Option (List LK):=if P.eqGuardType P.depth t then none else jaX P 8 t
def jfi (P:Program) (ne:Bool) (t:TypeId) (x y:AV):PA:=match x,y with
 | .raw (.bool a),.raw (.bool b)=>(jd0 P t=true,.raw (.bool (ne ^^ (a == b))))
 | .raw (.pointer none),.raw (.pointer b)=>(jc8 P t=true,.raw (.bool (ne ^^ b.isNone)))
 | .raw (.pointer (some _)),.raw (.pointer none)=>(jc8 P t=true,.raw (.bool ne))
 | .ip _,.raw (.pointer none)=>(jc8 P t=true,.raw (.bool ne))
 | .pt ..,.raw (.pointer none)=>(jc8 P t=true,.raw (.bool ne))
 | .raw (.slice none _ _),.raw (.slice b _ _)=>(jai P t=true,.raw (.bool (ne ^^ b.isNone)))
 | .raw (.slice (some _) _ _),.raw (.slice none _ _)=>(jai P t=true,.raw (.bool ne))
 | .sl _ _ css _,.raw (.slice none _ _)=>(jai P t=true∧css≠[],.raw (.bool ne))
 | .agg cs,.agg ds=>match je2 P t with
  | some ks=>(jal P t=some true∧cs.map ja6=ks.map some∧ds.map ja6=ks.map some,.raw (.bool (ne ^^ eqL cs ds)))
  | none=>jaP
 | _,_=>jaP
def jb5 (P:Program) (op:BinOp) (t:TypeId) (x y:AV):PA:=match x,y with
 | .raw (.int k a),.raw (.int k' b)=>jiQ op k a k' b
 | .raw (.string a),.raw (.string b)=>jhK op a b
 | x,y=>match op with
  | .eql=>jfi P false t x y
  | .neq=>jfi P true t x y
  | _=>jaP
def qUn (op:UnOp) (x:AV):PA:=match op,x with
 | .not,.raw (.bool b)=>(True,.raw (.bool (!b)))
 | .neg,.raw (.int k n)=>(True,.raw (.int k (k.wrap (0 - n))))
 | _,_=>jaP
def jb1 (P:Program) (H:Hp) (t:TypeId) (a:AV):PA:=match jaR H a,jal P t,jba P t with
 | some (c,cs),some true,some k=>(c∧k≤cs.length∧1≤cs.length,.agg (cs.take k))
 | some (c,cs),some false,some k=>(c∧k≤cs.length∧1≤cs.length,cs.getD 0 .any)
 | _,_,_=>jaP
def jaq (P:Program) (t:TypeId) (a:AV) (f:Nat):PA:=match a,jgL P t f with
 | .ip cs,some off=>(True,.ip (cs.drop off))
 | .pt i m k j,some off=>(True,.pt i m k (j+off))
 | _,_=>jaP
def fTy (P:Program) (t:TypeId) (f:Nat):Option (TypeId×Nat):=match P.underlying t with
 | some (.struct fs)=>(fs[f]?).map fun fd=>(fd.type,fd.offset)
 | _=>none
def jgj (P:Program) (t:TypeId) (cs:List AV) (off:Nat):PA:=match jal P t,jba P t with
 | some true,some k=>(off+k≤cs.length,.agg ((cs.drop off).take k))
 | some false,some _=>(off < cs.length,cs.getD off .any)
 | _,_=>jaP
def jcf (P:Program) (t:TypeId) (a:AV) (f:Nat):PA:=match a,fTy P t f with
 | .agg cs,some (ft,off)=>jgj P ft cs off
 | _,_=>jaP
def jei (P:Program) (t:TypeId):Option Nat:=(elT P t).bind (jba P)
def jhT (P:Program) (t:TypeId):Option (Nat×Nat):=match P.underlying t with
 | some (.array len e)=>(jba P e).map fun s=>(len,s)
 | _=>none
def jkf (o:Option (Nat×Nat)) (i:Int) (f:Nat→AV):PA:=match o with
 | some (len,s)=>(0≤i∧i < len,f (i.toNat * s))
 | none=>jaP
def jaD (P:Program) (t:TypeId) (a i:AV):PA:=match a,i with
 | .sl _ sz css d,.raw (.int _ i)=>(jei P t=some sz∧0≤i∧i < css.length,.ip (css.getD i.toNat d))
 | .rs d m sz n,.raw (.int _ i)=>(jei P t=some sz∧0≤i∧i < n,.pt d m i.toNat 0)
 | .rc d m sz n,.raw (.int _ i)=>(jei P t=some sz∧0≤i∧i < n,.pt d m i.toNat 0)
 | .rv d m sz o n,.raw (.int _ i)=>(jei P t=some sz∧0≤i∧i < n,.pt d m (o+i.toNat) 0)
 | .pt d m k j,.raw (.int _ i)=>jkf (jhT P t) i fun o=>.pt d m k (j+o)
 | .ip cs,.raw (.int _ i)=>jkf (jhT P t) i fun o=>.ip (cs.drop o)
 | _,_=>jaP
def jbS (s:ByteArray) (i:Int):Int:=((s.data[i.toNat]?.getD 0).toNat:Int)
def jbB (P:Program) (t:TypeId) (a i:AV):PA:=match a,i with
 | .raw (.string s),.raw (.int _ i)=>(jbW P t=true∧0≤i∧i < s.size,.raw (.int .u8 (jbS s i)))
 | _,_=>jaP
def jaM (a:AV) (i:Nat):PA:=match a with
 | .tup vs=>(i < vs.length,vs.getD i .any)
 | _=>jaP
def jbA:Option AV→Option (Option Int)
 | none=>some none
 | some (.raw (.int _ i))=>some (some i)
 | _=>none
def jbs (P:Program) (t:TypeId) (a:AV) (lo hi mx:Option AV):PA:=match a,jbA lo,jbA hi,jbA mx with
 | .raw (.string s),some lo,some hi,some none=>(jbW P t=true∧0≤lo.getD 0∧lo.getD 0≤hi.getD s.size∧hi.getD s.size≤s.size,.raw (.string (s.extract (lo.getD 0).toNat (hi.getD s.size).toNat)))
 | .sl _ sz css d,some lo,some hi,some none=>
  (jei P t=some sz∧0≤lo.getD 0∧lo.getD 0≤hi.getD css.length∧hi.getD css.length≤css.length,.sl false sz ((css.drop (lo.getD 0).toNat).take ((hi.getD css.length).toNat - (lo.getD 0).toNat)) d)
 | .rs d m sz n,some none,some hi,some none=>(jei P t=some sz∧0≤hi.getD n∧hi.getD n≤n,.rs d m sz (hi.getD n).toNat)
 | .rs d m sz n,some (some lo),some hi,some none=>(jei P t=some sz∧0≤lo∧lo≤hi.getD n∧hi.getD n≤n,.rv d m sz lo.toNat ((hi.getD n).toNat - lo.toNat))
 | .rc d m sz n,some none,some hi,some none=>(jei P t=some sz∧0≤hi.getD n∧hi.getD n≤m,.rc d m sz (hi.getD n).toNat)
 | .rc d m sz n,some (some lo),some hi,some none=>(jei P t=some sz∧0≤lo∧lo≤hi.getD n∧hi.getD n≤m,.rv d m sz lo.toNat ((hi.getD n).toNat - lo.toNat))
 | .rc d m sz n,some lo,some (some hi),some (some mx)=>(jei P t=some sz∧0≤lo.getD 0∧lo.getD 0≤hi∧hi≤mx∧mx≤m,.rv d m sz (lo.getD 0).toNat (hi.toNat - (lo.getD 0).toNat))
 | .rv d m sz o n,some lo,some hi,some none=>(jei P t=some sz∧0≤lo.getD 0∧lo.getD 0≤hi.getD n∧hi.getD n≤n,.rv d m sz (o+(lo.getD 0).toNat) ((hi.getD n).toNat - (lo.getD 0).toNat))
 | .rs d m sz n,some lo,some (some hi),some (some mx)=>(jei P t=some sz∧0≤lo.getD 0∧lo.getD 0≤hi∧hi≤mx∧mx≤n,.rv d m sz (lo.getD 0).toNat (hi.toNat - (lo.getD 0).toNat))
 | .raw (.slice none 0 0),some lo,some hi,some none=>(jai P t=true∧(jei P t).isSome=true∧lo.getD 0=0∧hi.getD 0=0,.raw (.slice none 0 0))
 | _,_,_,_=>jaP
def jiT:List AV→Option (List Value)
 | []=>some []
 | .raw v::l=>(jiT l).map (v::·)
 | _=>none
def jfk (fn:Fn) (first captured:List AV):PA:=match fn,first with
 | .func f,[]=>(True,.clo f captured)
 | .func f,x::l=>(captured=[],.bd f (x::l))
 | .method m,[x]=>(captured=[],.mv m x)
 | _,_=>jaP
def jde (P:Program) (t:TypeId) (x:AV):PA:=match x,jd1 P t,P.underlying t with
 | .raw v,false,some _=>(True,.raw (.iface t v))
 | a,false,some _=>(True,.ifc t a)
 | _,_,_=>jaP
def jiJ (P:Program) (t:TypeId):Option IntKind:=match P.underlying t with
 | some (.int k)=>some k
 | _=>none
def jfh (P:Program) (s d:TypeId) (x:AV):PA:=match x,jiJ P d with
 | .raw (.int _ n),some k=>((P.underlying s).isSome=true,.raw (.int k (k.wrap n)))
 | .raw (.string s'),none=>((P.underlying s).isSome=true∧jbW P d=true,.raw (.string s'))
 | _,_=>jaP
def jgR (P:Program) (t:TypeId):Bool:=match P.underlying t with
 | some (.map _ _)=>true
 | _=>false
def jg4 (P:Program) (H:Hp) (t:TypeId) (x:AV):PA:=match x with
 | .mr i=>if mapTs.contains t=true then (match H.get i with
  | some (.mp ks _)=>(jgR P t=true,.raw (.int .i64 ks.length))
  | _=>jaP) else jaP
 | .sl _ _ css _=>(jai P t=true,.raw (.int .i64 css.length))
 | .rs _ _ _ n=>(jai P t=true,.raw (.int .i64 n))
 | .rc _ _ _ n=>(jai P t=true,.raw (.int .i64 n))
 | .rv _ _ _ _ n=>(jai P t=true,.raw (.int .i64 n))
 | .raw (.slice _ n _)=>(jai P t=true,.raw (.int .i64 n))
 | .raw (.string s)=>(jbW P t=true,.raw (.int .i64 s.size))
 | _=>jaP
def jkg (P:Program) (t:TypeId) (x:AV):PA:=match x with
 | .sl true _ css _=>(jai P t=true,.raw (.int .i64 css.length))
 | .rc _ m _ _=>(jai P t=true,.raw (.int .i64 m))
 | .raw (.slice _ _ n)=>(jai P t=true,.raw (.int .i64 n))
 | _=>jaP
def jb2 (mx:Bool) (args:List AV):PA:=match args with
 | [.raw (.int k a),.raw (.int k' b)]=>(k=k',.raw (.int k (if mx then (if b > a then b else a) else (if b < a then b else a))))
 | _=>jaP
def jaA (P:Program) (H:Hp) (b:Builtin) (ts:List TypeId) (args:List AV):PA:=match b,ts,args with
 | .len,t::_,x::_=>jg4 P H t x
 | .cap,t::_,x::_=>jkg P t x
 | .max,_,args=>jb2 true args
 | .min,_,args=>jb2 false args
 | _,_,_=>jaP
def jdD (P:Program) (t:TypeId):Option (List (Nat×Nat)):=match P.underlying t with
 | some (.struct fs)=>fs.toList.mapM fun f=>(jba P f.type).map fun k=>(f.offset,k)
 | _=>none
def jdV (pl:Nat→Option (Nat×Nat)) (cells:List AV):List (Nat×AV)→Option (List AV)
 | []=>some cells
 | (i,a)::rest=>match pl i with
  | some (off,k)=>if a.cells.length=k∧off+k≤cells.length then jdV pl (jaE cells off a.cells) rest else none
  | none=>none
def jce (P:Program) (t:TypeId) (parts:List (Nat×AV)):PA:=match jaG P t,jdD P t with
 | some zs,some pl=>match jdV (fun i=>pl[i]?) (zs.map .raw) parts with
  | some cs=>(ones ((parts.map fun p=>p.2.cells).flatten)=true,.agg cs)
  | none=>jaP
 | _,_=>jaP
def vq (P:Program) (ev:Operand→AV) (H:Hp):Op→PA
 | .move x=>(True,ev x)
 | .assign x=>(True,ev x)
 | .pick c a b=>jaT (ev c) (ev a) (ev b)
 | .nilCheck x=>jiR P (ev x)
 | .binOp op t x y _=>jb5 P op t (ev x) (ev y)
 | .unOp op _ x=>qUn op (ev x)
 | .load t a=>jb1 P H t (ev a)
 | .fieldAddr t a f=>jaq P t (ev a) f
 | .field t a f=>jcf P t (ev a) f
 | .indexAddr t a i=>jaD P t (ev a) (ev i)
 | .index t a i=>jbB P t (ev a) (ev i)
 | .extract a i=>jaM (ev a) i
 | .slice t a lo hi mx=>jbs P t (ev a) (lo.map ev) (hi.map ev) (mx.map ev)
 | .makeFunc fn first captured=>jfk fn (first.toList.map ev) (captured.toList.map ev)
 | .makeInterface t x=>jde P t (ev x)
 | .convert s d x=>jfh P s d (ev x)
 | .build t parts=>jce P t (parts.toList.map fun p=>(p.1,ev p.2))
 | .call { callee:=.builtin b,args,argTypes }=>jaA P H b argTypes.toList (args.toList.map ev)
 | _=>jaP
section
variable {P:Program} {w:NW} {H:Hp}
theorem jab {v u:Value} (h:RelV w (.raw v) u):u=v:=by cases h;rfl
theorem jeZ (a b:Int):(a == b)=decide (a=b):=by rw [Bool.eq_iff_iff];simp
theorem jaN (a b:ByteArray):(a.toList == b.toList)=decide (a=b):=by
 rw [Bool.eq_iff_iff,beq_iff_eq,decide_eq_true_iff]
 constructor
 ·intro h
  exact ByteArray.ext (by simpa [ByteArray.toList_eq] using h)
 ·rintro rfl;rfl
theorem jbJ {a:AV} {lk:LK} (h:ja6 a=some lk):match lk with
  | .int k=>∃ n,a=.raw (.int k n)
  | .str=>∃ s,a=.raw (.string s)
  | .bool=>∃ b,a=.raw (.bool b):=by
 unfold ja6 at h
 split at h<;>cases h<;>exact ⟨_,rfl⟩
theorem jdw:∀ {a c b d:List AV},a.map ja6=c.map ja6→(∀ x∈a,(ja6 x).isSome=true)→eqL (a++b) (c++d)=(eqL a c && eqL b d)
 | [],[],b,d,_,_=>by simp [eqL]
 | [],_::_,_,_,h,_=>by simp at h
 | _::_,[],_,_,h,_=>by simp at h
 | x::a,y::c,b,d,h,hs=>by
  simp only [List.map_cons,List.cons.injEq] at h
  have ih:=jdw (b:=b) (d:=d) h.2 (fun z hz=>hs z (by simp [hz]))
  obtain ⟨lk,hx⟩:=Option.isSome_iff_exists.1 (hs x (by simp))
  have hy:=h.1.symm.trans hx
  have h1:=jbJ hx
  have h2:=jbJ hy
  cases lk<;>(obtain ⟨u,rfl⟩:=h1;obtain ⟨v,rfl⟩:=h2;simp only [List.cons_append,eqL,ih,Bool.and_assoc])
theorem jcq {cs:List AV} {ks:List LK} (h:cs.map ja6=ks.map some):(∀ x∈cs,(ja6 x).isSome=true)∧cs.length=ks.length:=by
 refine ⟨fun x hx=>?_,by have:=congrArg List.length h;simpa using this⟩
 have:ja6 x∈cs.map ja6:=List.mem_map.2 ⟨x,hx,rfl⟩
 rw [h] at this
 obtain ⟨k,_,hk⟩:=List.mem_map.1 this
 rw [← hk];rfl
theorem jjt {t:TypeId} {lk:LK} {a b:AV} {va vb:Value} (ht:P.underlying t=some (match lk with | .int k=>.int k | .str=>.string | .bool=>.bool)) (ha:RelV w a va) (hb:RelV w b vb) (hka:ja6 a=some lk) (hkb:ja6 b=some lk) (d:Nat) :
  (Op.equalIn (d+1) t va vb).run P w.toWorld=.ok (eqL [a] [b]) w.toWorld:=by
 have h1:=jbJ hka
 have h2:=jbJ hkb
 cases lk with
 | int k=>
  obtain ⟨m,rfl⟩:=h1;obtain ⟨n,rfl⟩:=h2
  have:=jab ha;have:=jab hb;subst_vars
  rw [run_equalIn_int w d t k k _ _ ht]
  simp [eqL,jeZ]
 | str=>
  obtain ⟨m,rfl⟩:=h1;obtain ⟨n,rfl⟩:=h2
  have:=jab ha;have:=jab hb;subst_vars
  rw [run_equalIn_string w d t _ _ ht,jaN]
  simp [eqL]
 | bool=>
  obtain ⟨m,rfl⟩:=h1;obtain ⟨n,rfl⟩:=h2
  have:=jab ha;have:=jab hb;subst_vars
  rw [run_equalIn_bool w d t _ _ ht]
  simp [eqL]
def jeS (P:Program) (t:TypeId) (v:Value) (vs:List Value):Prop:=(jal P t=some true∧v=.agg vs.toArray)∨(jal P t=some false∧vs=[v])
theorem jfQ {t:TypeId} {xs:Array Value} {off k:Nat} (hag:(jal P t).isSome=true) (hsz:jba P t=some k) (h1:jal P t=some false→k=1) (hfit:off+k≤xs.size) :
  ∃ v,(part t xs off).run P w.toWorld=.ok v w.toWorld∧jeS P t v ((xs.toList.drop off).take k):=by
 obtain ⟨ag,hag⟩:=Option.isSome_iff_exists.1 hag
 cases ag with
 | true=>
  refine ⟨.agg (xs.extract off (off+k)),by simp [part,jbj hag,jag hsz],.inl ⟨hag,?_⟩⟩
  congr 1
  apply Array.ext'
  simp [Array.toList_extract,List.extract_eq_take_drop]
 | false=>
  obtain rfl:=h1 hag
  have h2:xs[off]?=some (xs[off]'(by omega)):=Array.getElem?_eq_getElem (by omega)
  refine ⟨xs[off]'(by omega),by simp [part,jbj hag,h2],.inr ⟨hag,?_⟩⟩
  rw [List.drop_eq_getElem_cons (by simp;omega)]
  simp
theorem jeB {cs:List AV} {vs:List Value} (h:RelL w cs vs) (n:Nat):RelL w (cs.drop n) (vs.drop n):=⟨by simp [h.1],fun i a v ha hv=>h.2 (n+i) a v (by simpa using ha) (by simpa using hv)⟩
theorem jeD {cs:List AV} {vs:List Value} (h:RelL w cs vs) (n:Nat):RelL w (cs.take n) (vs.take n):=⟨by simp [h.1],fun i a v ha hv=>by
 rw [List.getElem?_take] at ha hv
 split at ha
 ·rename_i hi;rw [if_pos hi] at hv;exact h.2 i a v ha hv
 ·cases ha⟩
theorem jgJ:∀ (n:Nat),(∀ (t:TypeId) (ks:List LK),jaX P n t=some ks→∀ (d:Nat) (v v':Value) (cs ds:List AV) (vs us:List Value),jeS P t v vs→jeS P t v' us→RelL w cs vs→RelL w ds us→cs.map ja6=ks.map some→ds.map ja6=ks.map some→
   (Op.equalIn (d+n) t v v').run P w.toWorld=.ok (eqL cs ds) w.toWorld):=by
 intro n
 induction n with
 | zero=>intro t ks h;simp [jaX] at h
 | succ n ih=>
  intro t ks hk d v v' cs ds vs us hv hv' hcs hds h1 h2
  have leaf:∀ lk:LK,P.underlying t=some (match lk with | .int k=>.int k | .str=>.string | .bool=>.bool)→ks=[lk]→jal P t=some false→(Op.equalIn (d+(n+1)) t v v').run P w.toWorld=.ok (eqL cs ds) w.toWorld:=by
   rintro lk ht rfl hag
   have e1:vs=[v]:=by
    rcases hv with ⟨h,_⟩ | ⟨_,h⟩
    ·rw [hag] at h;cases h
    ·exact h
   have e2:us=[v']:=by
    rcases hv' with ⟨h,_⟩ | ⟨_,h⟩
    ·rw [hag] at h;cases h
    ·exact h
   subst e1 e2
   match cs,ds,h1,h2 with
   | [a],[b],h1,h2=>
    exact jjt ht (hcs.2 0 _ _ rfl rfl) (hds.2 0 _ _ rfl rfl) (by simpa using h1) (by simpa using h2) (d+n)
  unfold jaX at hk
  split at hk
  ·rename_i k hu;exact leaf (.int k) hu (by simpa using hk.symm) (by simp [jal,hu])
  ·rename_i hu;exact leaf .str hu (by simpa using hk.symm) (by simp [jal,hu])
  ·rename_i hu;exact leaf .bool hu (by simpa using hk.symm) (by simp [jal,hu])
  ·rename_i fs hu
   split at hk
   ·cases hk
   ·rename_i hst
    have hag:jal P t=some true:=by simp [jal,hu]
    have e1:v=.agg vs.toArray:=by
     rcases hv with ⟨_,h⟩ | ⟨h,_⟩
     ·exact h
     ·rw [hag] at h;cases h
    have e2:v'=.agg us.toArray:=by
     rcases hv' with ⟨_,h⟩ | ⟨h,_⟩
     ·exact h
     ·rw [hag] at h;cases h
    subst e1 e2
    have hf:P.fieldsOf t=fs:=by simp [Program.fieldsOf,hu]
    rw [show d+(n+1)=(d+n)+1 by omega,run_equalIn_struct w (d+n) t _ _ (by rw [hf];exact hu) (by simpa using hst),hf]
    have gen:∀ (l:List Field) (off:Nat) (ks:List LK),jbh P (jaX P n) off l=some ks→off≤cs.length→off≤ds.length→(cs.drop off).map ja6=ks.map some→(ds.drop off).map ja6=ks.map some→
      (Op.eqFields (d+n) vs.toArray us.toArray l).run P w=.ok (eqL (cs.drop off) (ds.drop off)) w:=by
     intro l
     induction l with
     | nil=>
      intro off ks hk _ _ g1 g2
      simp only [jbh,Option.some.injEq] at hk
      subst hk
      have c1:cs.drop off=[]:=by simpa using g1
      have c2:ds.drop off=[]:=by simpa using g2
      rw [c1,c2];simp [Op.eqFields,eqL]
     | cons f l ihl=>
      intro off ks hk o1 o2 g1 g2
      unfold jbh at hk
      split at hk
      ·rename_i hno
       obtain ⟨hname,rfl⟩:=hno
       split at hk
       ·rename_i ks1 k e1 e2
        split at hk
        ·rename_i hkl
         simp only [Option.map_eq_some_iff] at hk
         obtain ⟨ks2,hk2,rfl⟩:=hk
         have l1:=(jcq g1).2
         have l2:=(jcq g2).2
         have ag:(jal P f.type).isSome=true∧(jal P f.type=some false→k=1):=by
          cases n with
          | zero=>simp [jaX] at e1
          | succ n=>
           unfold jaX at e1
           split at e1
           ·rename_i hu;refine ⟨by simp [jal,hu],fun _=>?_⟩;cases e1;exact hkl.symm
           ·rename_i hu;refine ⟨by simp [jal,hu],fun _=>?_⟩;cases e1;exact hkl.symm
           ·rename_i hu;refine ⟨by simp [jal,hu],fun _=>?_⟩;cases e1;exact hkl.symm
           ·rename_i hu;exact ⟨by simp [jal,hu],fun h=>by simp [jal,hu] at h⟩
           ·cases e1
         have hvl:=hcs.1
         have hul:=hds.1
         simp only [List.length_drop,List.length_append] at l1 l2
         obtain ⟨x,hx,cx⟩:=jfQ (P:=P) (w:=w) (xs:=vs.toArray) (off:=f.offset) ag.1 e2 ag.2 (by simp;omega)
         obtain ⟨y,hy,cy⟩:=jfQ (P:=P) (w:=w) (xs:=us.toArray) (off:=f.offset) ag.1 e2 ag.2 (by simp;omega)
         simp only [List.map_append] at g1 g2
         have split1:∀ {zs:List AV},(zs.drop f.offset).map ja6=ks1.map some++ks2.map some→((zs.drop f.offset).take k).map ja6=ks1.map some∧(zs.drop (f.offset+k)).map ja6=ks2.map some:=by
          intro zs h
          have e:k=(ks1.map some).length:=by simp [hkl]
          constructor
          ·rw [List.map_take,h,e,List.take_left'];rfl
          ·rw [← List.drop_drop,List.map_drop,h,e,List.drop_left'];rfl
         obtain ⟨a1,a2⟩:=split1 g1
         obtain ⟨b1,b2⟩:=split1 g2
         have heq:=ih f.type ks1 e1 d x y _ _ _ _ cx cy (jeD (jeB hcs f.offset) k) (jeD (jeB hds f.offset) k) a1 b1
         have hrest:=ihl (f.offset+k) ks2 hk2 (by omega) (by omega) a2 b2
         have hsplit:eqL (cs.drop f.offset) (ds.drop f.offset)=(eqL ((cs.drop f.offset).take k) ((ds.drop f.offset).take k) && eqL (cs.drop (f.offset+k)) (ds.drop (f.offset+k))):=by
          rw [← jdw (by rw [a1,b1]) (jcq a1).1,← List.drop_drop,← List.drop_drop,List.take_append_drop,List.take_append_drop]
         simp only [Op.eqFields,ne_eq,hname,not_false_eq_true,if_true,Sem.run_bind,hx,hy,heq,Result.andThen_ok]
         rw [hsplit]
         cases hb:eqL ((cs.drop f.offset).take k) ((ds.drop f.offset).take k)
         ·simp
         ·simp only [Bool.not_true,Bool.false_eq_true,if_false,Bool.true_and];exact hrest
        ·cases hk
       ·cases hk
      ·cases hk
    have:=gen fs.toList 0 ks hk (Nat.zero_le _) (Nat.zero_le _) (by simpa using h1) (by simpa using h2)
    simpa using this
  ·cases hk
theorem jks {ne:Bool} {t:TypeId} {cs ds:List AV} {va vb:Value} {ks:List LK} {x y:Operand} (hk:je2 P t=some ks) (hag:jal P t=some true) (h1:cs.map ja6=ks.map some) (h2:ds.map ja6=ks.map some) (ha:RelV w (.agg cs) va) (hb:RelV w (.agg ds) vb) :
  ∃ v,(do eqGuard (if ne then .neq else .eql) t x y va vb;binOp (if ne then .neq else .eql) t va vb:Sem Value).run P w.toWorld=.ok v w.toWorld∧RelV w (.raw (.bool (ne ^^ eqL cs ds))) v:=by
 unfold je2 at hk
 split at hk
 ·cases hk
 ·rename_i hg
  cases ha with | agg _ vs l1 r1=>
  cases hb with | agg _ us l2 r2=>
  have he:=jgJ (P:=P) (w:=w) 8 t ks hk 9992 (.agg vs) (.agg us) cs ds vs.toList us.toList (.inl ⟨hag,by simp⟩) (.inl ⟨hag,by simp⟩) ⟨by simpa using l1,fun i a v ha hv=>r1 i a v ha (by simpa using hv)⟩ ⟨by simpa using l2,fun i a v ha hv=>r2 i a v ha (by simpa using hv)⟩ h1 h2
  have hgr:∀ op,(eqGuard op t x y (.agg vs) (.agg us)).run P w.toWorld=.ok () w.toWorld:=fun op=>run_eqGuard_agg w op t x y vs us (by simpa using hg)
  have he':(Op.equalIn 10000 t (.agg vs) (.agg us)).run P w.toWorld=.ok (eqL cs ds) w.toWorld:=he
  cases ne
  ·simp only [Bool.false_eq_true,if_false,Sem.run_bind,hgr,Result.andThen_ok,run_eql_struct,he']
   exact ⟨_,rfl,by simpa using RelV.raw _⟩
  ·simp only [if_true,Sem.run_bind,hgr,Result.andThen_ok,run_neq_struct,he']
   exact ⟨_,rfl,by simpa using RelV.raw _⟩
end
section
variable {P:Program} {w:NW} {H:Hp}
theorem jdg {a:AV} {v:Value} (h:RelV w a v) (hp:(unG a).1=true):RelV w (unG a).2 v:=by
 unfold unG at *
 split
 ·cases h with | gd p a v hh hu=>exact hh hp
 ·exact h
theorem jdH {c a b:AV} {vc va vb:Value} (hc:RelV w c vc) (ha:RelV w a va) (hb:RelV w b vb):jcV P w (do pure (if ← asBool vc then va else vb)) (jaT c a b):=by
 intro hq
 unfold jaT at *
 split at hq
 ·rename_i cb pa x pb y e1 e2
  have:=jab hc
  subst this
  cases cb with
  | true=>
   have h:=jdg ha (by rw [e1];exact hq.1 rfl)
   rw [e1] at h
   have:=jab h
   subst this
   exact ⟨.bool x,by simp [asBool],by simpa [jjb] using RelV.raw _⟩
  | false=>
   have h:=jdg hb (by rw [e2];exact hq.2 rfl)
   rw [e2] at h
   have:=jab h
   subst this
   exact ⟨.bool y,by simp [asBool],by simpa [jjb] using RelV.raw _⟩
 ·unfold jdG at *
  split at hq
  ·have:=jab hc
   subst this
   exact ⟨va,by simp [asBool],jdg ha hq⟩
  ·have:=jab hc
   subst this
   exact ⟨vb,by simp [asBool],jdg hb hq⟩
  ·exact hq.elim
theorem jg3 (op:BinOp) (t:TypeId) (k:IntKind) (a:Int) (k':IntKind) (b:Int) (x y:Operand):jcV P w (do eqGuard op t x y (.int k a) (.int k' b);binOp op t (.int k a) (.int k' b)) (jiQ op k a k' b):=by
 intro hq
 cases op<;>simp only [jiQ] at hq ⊢
 case shl=>
  have h0:¬ b < 0:=by omega
  exact ⟨_,by simp [eqGuard_at_int,binOp,Op.shift,h0],.raw _⟩
 case shr=>
  have h0:¬ b < 0:=by omega
  exact ⟨_,by simp [eqGuard_at_int,binOp,Op.shift,h0],.raw _⟩
 case quo=>obtain ⟨rfl,h0⟩:=hq;exact ⟨_,by simp [eqGuard_at_int,binOp,Op.intDiv,h0],.raw _⟩
 case rem=>obtain ⟨rfl,h0⟩:=hq;exact ⟨_,by simp [eqGuard_at_int,binOp,Op.intDiv,h0],.raw _⟩
 case and=>subst hq;exact ⟨_,by simp [eqGuard_at_int,binOp,Op.intBits,jcy],.raw _⟩
 case or=>subst hq;exact ⟨_,by simp [eqGuard_at_int,binOp,Op.intBits,jcy],.raw _⟩
 case xor=>subst hq;exact ⟨_,by simp [eqGuard_at_int,binOp,Op.intBits,jcy],.raw _⟩
 case andNot=>subst hq;exact ⟨_,by simp [eqGuard_at_int,binOp,Op.intBits,jcy],.raw _⟩
 case eql=>subst hq;exact ⟨.bool (decide (a=b)),by simp [eqGuard_at_int,binOp,Op.intCmp,jeZ],.raw _⟩
 case neq=>subst hq;exact ⟨.bool (!decide (a=b)),by simp [eqGuard_at_int,binOp,Op.intCmp,bne,jeZ],.raw _⟩
 all_goals (subst hq;exact ⟨_,by simp [eqGuard_at_int,binOp,Op.intArith,Op.intCmp];try rfl,.raw _⟩)
theorem jg7 (op:BinOp) (t:TypeId) (a b:ByteArray) (x y:Operand):jcV P w (do eqGuard op t x y (.string a) (.string b);binOp op t (.string a) (.string b)) (jhK op a b):=by
 intro hq
 cases op<;>simp only [jhK] at hq ⊢
 case add=>
  have h0:¬ (((a.size+b.size:Nat):Int) > IntKind.i64.max):=by rw [IntKind.max_i64];omega
  exact ⟨_,by simp only [eqGuard_at_string,binOp,Op.stringOp,pure_bind,if_neg h0,Sem.run_pure],.raw _⟩
 case eql=>exact ⟨_,by simp [eqGuard_at_string,binOp,Op.stringOp,jaN],.raw _⟩
 case neq=>exact ⟨_,by simp [eqGuard_at_string,binOp,Op.stringOp,jaN],.raw _⟩
 case lss=>exact ⟨_,by simp [eqGuard_at_string,binOp,Op.stringOp],.raw _⟩
 case gtr=>exact ⟨_,by simp [eqGuard_at_string,binOp,Op.stringOp,jaN],.raw _⟩
 case leq=>exact ⟨_,by simp [eqGuard_at_string,binOp,Op.stringOp,jaN],.raw _⟩
 case geq=>exact ⟨_,by simp [eqGuard_at_string,binOp,Op.stringOp],.raw _⟩
 all_goals exact hq.elim
theorem jeF {t:TypeId} {m:String} (h:(je9 P t m).isSome=true) (v:Value) (W:World):(nilAhead (P.types.size+Made.depth) t v m).run P W=.ok (some false) W:=by
 obtain ⟨f,h⟩:=Option.isSome_iff_exists.1 h
 unfold je9 at h
 split at h
 rotate_left
 ·cases h
 rename_i ti e ht hu
 split at h
 rotate_left
 ·cases h
 rename_i r hr
 split at h
 rotate_left
 ·cases h
 rename_i hp
 split at h
 rotate_left
 ·cases h
 rename_i g hf
 cases h
 have hpl:r.path.toList=[]:=by
  have:=Array.isEmpty_iff.1 hp
  rw [this]
 obtain ⟨n,hn⟩:∃ n,P.types.size+Made.depth=n+1:=⟨P.types.size+Made.depth - 1,by have hd:=(by decide:Made.depth≠0);omega⟩
 rw [hn]
 unfold nilAhead
 simp only [Sem.run_bind,run_typeInfo W ht,Result.andThen_ok,hr,hpl,followBlind,Sem.run_pure,hf]
theorem jg6 {a:AV} {v:Value} (x:Operand) {ρ:Operand→Value} (hx:ρ x=v) (h:RelV w a v) (o:Oper) (ho:o.op=.nilCheck x):(jiR P a).1→∃ v',(execOp ρ o).run P w.toWorld=.ok (.value v') w.toWorld∧RelV w (jiR P a).2 v':=by
 intro hq
 unfold jiR at *
 split at hq<;>try exact hq.elim
 ·cases h with
  | mv _ _ u h=>
   cases h with
   | ifc _ _ u h=>
    refine ⟨_,?_,.mv _ _ _ (.ifc _ _ _ h)⟩
    simp [execOp,ho,hx,jeF hq]
 ·cases h with | ip _ ad vs hb hH hcell hr=>exact ⟨.pointer (some ad),by simp [execOp,ho,hx],.ip _ ad vs hb hH hcell hr⟩
 ·cases h with | pt _ _ _ _ b t s hn=>exact ⟨_,by simp [execOp,ho,hx],.pt _ _ _ _ b t s hn⟩
 all_goals (have:=jab h;subst this;exact ⟨_,by simp [execOp,ho,hx];try rfl,.raw _⟩)
theorem jlQ {t:TypeId} (h:jc8 P t=true):∃ e,P.underlying t=some (.pointer e):=by
 unfold jc8 at h;split at h<;>simp_all
theorem jmg {t:TypeId} (h:jd0 P t=true):P.underlying t=some .bool:=by
 unfold jd0 at h;split at h<;>simp_all
theorem jlU {t:TypeId} (h:jbW P t=true):P.underlying t=some .string:=by
 unfold jbW at h;split at h<;>simp_all
theorem jbt {t:TypeId} (h:jai P t=true):∃ e,P.underlying t=some (.slice e):=by
 unfold jai at h;split at h<;>simp_all
theorem ja2 {t:TypeId} {x y:Value} {r:Bool} (h:∀ d,(Op.equalIn (d+1) t x y).run P w.toWorld=.ok r w.toWorld):(Op.equal t x y).run P w.toWorld=.ok r w.toWorld:=h 9999
theorem ja1 {ne:Bool} {t:TypeId} {x y:Operand} {a b:Value} {r:Bool} (hg:∀ op,eqGuard op t x y a b=pure ()) (h1:binOp .eql t a b=(do pure (.bool (← Op.equal t a b)))) (h2:binOp .neq t a b=(do pure (.bool (!(← Op.equal t a b)))))
  (he:(Op.equal t a b).run P w.toWorld=.ok r w.toWorld):∃ v,(do eqGuard (if ne then .neq else .eql) t x y a b;binOp (if ne then .neq else .eql) t a b:Sem Value).run P w.toWorld=.ok v w.toWorld∧RelV w (.raw (.bool (ne ^^ r))) v:=by
 cases ne
 ·simp only [Bool.false_eq_true,if_false,hg,h1,Sem.run_bind,he,Sem.run_pure,Result.andThen_ok]
  exact ⟨_,rfl,by simpa using RelV.raw _⟩
 ·simp only [if_true,hg,h2,Sem.run_bind,he,Sem.run_pure,Result.andThen_ok]
  exact ⟨_,rfl,by simpa using RelV.raw _⟩
theorem jdF (ne:Bool) (t:TypeId) {a b:AV} {va vb:Value} (x y:Operand) (ha:RelV w a va) (hb:RelV w b vb) :
  jcV P w (do eqGuard (if ne then .neq else .eql) t x y va vb;binOp (if ne then .neq else .eql) t va vb) (jfi P ne t a b):=by
 intro hq
 unfold jfi at *
 split at hq<;>try exact hq.elim
 ·have:=jab ha;have:=jab hb;subst_vars
  have ht:=jmg hq
  exact ja1 (fun op=>eqGuard_at_bool _ _ _ _ _ _) rfl rfl (ja2 (fun d=>by simp [Op.equalIn,run_underlying ht]))
 ·have:=jab ha;have:=jab hb;subst_vars
  obtain ⟨e,ht⟩:=jlQ hq
  exact ja1 (fun op=>eqGuard_at_pointer _ _ _ _ _ _) rfl rfl (ja2 (fun d=>by simp [Op.equalIn,run_underlying ht]))
 ·have:=jab ha;have:=jab hb;subst_vars
  obtain ⟨e,ht⟩:=jlQ hq
  rename_i pa
  have:=ja1 (P:=P) (w:=w) (ne:=ne) (t:=t) (x:=x) (y:=y) (a:=.pointer (some pa)) (b:=.pointer none) (r:=false) (fun op=>eqGuard_at_pointer _ _ _ _ _ _) rfl rfl (ja2 (fun d=>by simp [Op.equalIn,run_underlying ht]))
  simpa using this
 ·have:=jab hb;subst_vars
  obtain ⟨e,ht⟩:=jlQ hq
  cases ha with | ip cs ad vs _ _ _ _=>
  have:=ja1 (P:=P) (w:=w) (ne:=ne) (t:=t) (x:=x) (y:=y) (a:=.pointer (some ad)) (b:=.pointer none) (r:=false) (fun op=>eqGuard_at_pointer _ _ _ _ _ _) rfl rfl (ja2 (fun d=>by simp [Op.equalIn,run_underlying ht]))
  simpa using this
 ·have:=jab hb;subst_vars
  obtain ⟨e,ht⟩:=jlQ hq
  rename_i i m k j
  cases ha with | pt _ _ _ _ bb tt ss _=>
  have:=ja1 (P:=P) (w:=w) (ne:=ne) (t:=t) (x:=x) (y:=y) (a:=.pointer (some ⟨bb,k * ss+j,none⟩)) (b:=.pointer none) (r:=false) (fun op=>eqGuard_at_pointer _ _ _ _ _ _) rfl rfl (ja2 (fun d=>by simp [Op.equalIn,run_underlying ht]))
  simpa using this
 ·have:=jab ha;have:=jab hb;subst_vars
  obtain ⟨e,ht⟩:=jbt hq
  exact ja1 (fun op=>eqGuard_at_slice _ _ _ _ _ _ _ _) rfl rfl (ja2 (fun d=>by simp [Op.equalIn,run_underlying ht]))
 ·have:=jab ha;have:=jab hb;subst_vars
  obtain ⟨e,ht⟩:=jbt hq
  rename_i pa n c m d
  have:=ja1 (P:=P) (w:=w) (ne:=ne) (t:=t) (x:=x) (y:=y) (a:=.slice (some pa) n c) (b:=.slice none m d) (r:=false) (fun op=>eqGuard_at_slice _ _ _ _ _ _ _ _) rfl rfl (ja2 (fun d=>by simp [Op.equalIn,run_underlying ht]))
  simpa using this
 ·have:=jab hb;subst_vars
  obtain ⟨hq,hne⟩:=hq
  obtain ⟨e,ht⟩:=jbt hq
  rename_i css _ m d
  cases ha with
  | sl0=>exact (hne rfl).elim
  | sl _ _ _ a c vs _ _ _ _ _ _ _ _=>
   have:=ja1 (P:=P) (w:=w) (ne:=ne) (t:=t) (x:=x) (y:=y) (a:=.slice (some a) css.length c) (b:=.slice none m d) (r:=false) (fun op=>eqGuard_at_slice _ _ _ _ _ _ _ _) rfl rfl (ja2 (fun d=>by simp [Op.equalIn,run_underlying ht]))
   simpa using this
 ·split at hq
  ·rename_i ks hks
   exact jks hks hq.1 hq.2.1 hq.2.2 ha hb
  ·exact hq.elim
theorem jez (op:BinOp) (t:TypeId) {a b:AV} {va vb:Value} (x y:Operand) (ha:RelV w a va) (hb:RelV w b vb) :
  jcV P w (do eqGuard op t x y va vb;binOp op t va vb) (jb5 P op t a b):=by
 unfold jb5
 split
 ·have:=jab ha;have:=jab hb;subst_vars;exact jg3 op t _ _ _ _ x y
 ·have:=jab ha;have:=jab hb;subst_vars;exact jg7 op t _ _ x y
 ·split
  ·exact jdF false t x y ha hb
  ·exact jdF true t x y ha hb
  ·exact jgN
theorem jie (op:UnOp) {a:AV} {v:Value} (h:RelV w a v):jcV P w (Op.unary op v) (qUn op a):=by
 intro hq
 unfold qUn at *
 split at hq<;>try exact hq.elim
 ·have:=jab h;subst this;exact ⟨_,by simp [Op.unary],.raw _⟩
 ·have:=jab h;subst this;exact ⟨_,by simp [Op.unary,Op.intArith],.raw _⟩
theorem jgi (t:TypeId) {a:AV} {v:Value} (h:RelV w a v) (hw:RelW w H):jcV P w (Instr.loadAt t v) (jb1 P H t a):=by
 intro hq
 unfold jb1 at *
 split at hq<;>try exact hq.elim
 ·rename_i c cs k e1 e2 e3
  exact jcC h hw e1 hq.1 e2 e3 hq.2.1 hq.2.2
 ·rename_i c cs k e1 e2 e3
  have:=jcC (P:=P) h hw e1 hq.1 e2 e3 hq.2.1 hq.2.2
  simpa [jcd] using this
theorem jep {t:TypeId} {f off:Nat} (h:jgL P t f=some off):∃ fs fd k,P.underlying t=some (.struct fs)∧fs[f]?=some fd∧jba P fd.type=some (k+1)∧fd.offset=off:=by
 unfold jgL at h
 split at h
 ·rename_i fs hu
  split at h
  ·rename_i fd hf
   split at h
   ·rename_i k hk;exact ⟨fs,fd,k,hu,hf,hk,by simpa using h⟩
   ·cases h
  ·cases h
 ·cases h
theorem jdd (t:TypeId) (f:Nat) {a:AV} {v:Value} (h:RelV w a v):jcV P w (Instr.fieldAt t v f) (jaq P t a f):=by
 intro hq
 unfold jaq at *
 split at hq<;>try exact hq.elim
 ·rename_i cs off e
  obtain ⟨fs,fd,k,hu,hf,hk,rfl⟩:=jep e
  cases h with | ip _ ad vs hb hH hcell hr=>
  refine ⟨.pointer (some (ad.add fd.offset)),?_,.ip _ _ (fun j=>vs (fd.offset+j)) (by rw [jam];exact hb) (by rw [jam];exact hH) (fun j hj=>?_) (fun j u hu=>?_)⟩
  ·simp [Instr.fieldAt,run_underlying hu,hf,Instr.sureAddr,fieldPlace,jag hk]
  ·rw [jbF];exact hcell _ (by simp at hj;omega)
  ·rw [List.getElem?_drop] at hu;exact hr _ _ hu
 ·rename_i i m q j off e
  obtain ⟨fs,fd,k,hu,hf,hk,rfl⟩:=jep e
  cases h with | pt _ _ _ _ b t s hn=>
  refine ⟨.pointer (some ⟨b,q * s+j+fd.offset,none⟩),?_,?_⟩
  ·simp [Instr.fieldAt,run_underlying hu,hf,Instr.sureAddr,fieldPlace,jag hk,jak]
  ·rw [Nat.add_assoc];exact .pt i m q (j+fd.offset) b t s hn
theorem jh0 {t ft:TypeId} {f off:Nat} (h:fTy P t f=some (ft,off)):∃ fs fd,P.underlying t=some (.struct fs)∧fs[f]?=some fd∧fd.type=ft∧fd.offset=off:=by
 unfold fTy at h
 split at h
 ·rename_i fs hu
  simp only [Option.map_eq_some_iff,Prod.mk.injEq] at h
  obtain ⟨fd,hf,h1,h2⟩:=h
  exact ⟨fs,fd,hu,hf,h1,h2⟩
 ·cases h
theorem jgk (t:TypeId) {cs:List AV} {vs:Array Value} (hl:cs.length=vs.size) (hr:∀ (i:Nat) a v,cs[i]?=some a→vs[i]?=some v→RelV w a v) (off:Nat):jcV P w (part t vs off) (jgj P t cs off):=by
 intro hq
 unfold jgj at *
 split at hq<;>try exact hq.elim
 ·rename_i k e1 e2
  simp only at hq
  refine ⟨.agg (vs.extract off (off+k)),by simp [part,jbj e1,jag e2],.agg _ _ (by simp;omega) fun i a v ha hv=>?_⟩
  rw [List.getElem?_take] at ha
  split at ha
  ·rw [List.getElem?_drop] at ha
   refine hr _ a v ha ?_
   rw [Array.getElem?_extract] at hv
   split at hv<;>simp_all
  ·cases ha
 ·rename_i k e1 e2
  simp only at hq
  have h1:vs[off]?=some (vs[off]'(by omega)):=Array.getElem?_eq_getElem (by omega)
  refine ⟨vs[off]'(by omega),by simp [part,jbj e1,h1],hr off _ _ ?_ h1⟩
  simp [List.getElem?_eq_getElem hq]
theorem jfj (t:TypeId) (f:Nat) {a:AV} {v:Value} (h:RelV w a v):jcV P w (Instr.field t v f) (jcf P t a f):=by
 unfold jcf
 split
 ·rename_i cs ft off e
  obtain ⟨fs,fd,hu,hf,rfl,rfl⟩:=jh0 e
  cases h with | agg _ vs hl hr=>
  intro hq
  obtain ⟨v,h1,h2⟩:=jgk (P:=P) fd.type hl hr fd.offset hq
  exact ⟨v,by simpa [Instr.field,run_underlying hu,hf,asAgg] using h1,h2⟩
 ·exact jgN
theorem jau {t:TypeId} {k:Nat} (h:jei P t=some k):∃ e,P.underlying t=some (.slice e)∧jba P e=some k:=by
 unfold jei elT at h
 split at h
 ·rename_i e hu;exact ⟨e,hu,by simpa using h⟩
 ·cases h
theorem jdu {t:TypeId} {n k:Nat} (h:jhT P t=some (n,k)):∃ e,P.underlying t=some (.array n e)∧jba P e=some k:=by
 unfold jhT at h
 split at h
 ·rename_i len e hu
  simp only [Option.map_eq_some_iff,Prod.mk.injEq] at h
  obtain ⟨s,h1,rfl,rfl⟩:=h
  exact ⟨e,hu,h1⟩
 ·cases h
theorem jdf (t:TypeId) {a i:AV} {va vi:Value} (ha:RelV w a va) (hi:RelV w i vi):jcV P w (Instr.indexAt t va vi) (jaD P t a i):=by
 intro hq
 unfold jaD at *
 split at hq<;>try exact hq.elim
 ·rename_i x sz css d k j
  have:=jab hi;subst this
  obtain ⟨e,hu,hs⟩:=jau hq.1
  have h0:=hq.2.1
  have h1:=hq.2.2
  cases ha with
  | sl0=>simp at h1;omega
  | sl _ _ _ ad c vs hn hc hx hsz hb hH hcell hr=>
   have hln:=jbI hsz (show j.toNat < css.length by omega)
   have hd:css.getD j.toNat d=css.getD j.toNat []:=by simp [show j.toNat < css.length by omega]
   rw [hd]
   refine ⟨.pointer (some (ad.add (j.toNat * sz))),?_,.ip _ _ (fun m=>vs (j.toNat * sz+m)) (by rw [jam];exact hb) (by rw [jam];exact hH) (fun m hm=>?_) (fun m u hu=>?_)⟩
   ·simp [Instr.indexAt,asIntOf,run_underlying hu,h0,h1,jag hs]
   ·rw [jbF];exact hcell _ m (by omega) (by omega)
   ·exact hr _ m u (by omega) hu
 ·rename_i d m sz n k j
  have:=jab hi;subst this
  obtain ⟨e,hu,hs⟩:=jau hq.1
  have h0:=hq.2.1
  have h1:=hq.2.2
  cases ha with
  | rs0=>simp at h1;omega
  | rs _ _ _ _ b t c hn hc hle hs0=>
   refine ⟨.pointer (some ⟨b,j.toNat * sz,none⟩),?_,.pt d m j.toNat 0 b t sz hn⟩
   simp [Instr.indexAt,asIntOf,run_underlying hu,h0,h1,jag hs,jak]
 ·rename_i d m sz n k j
  have:=jab hi;subst this
  obtain ⟨e,hu,hs⟩:=jau hq.1
  have h0:=hq.2.1
  have h1:=hq.2.2
  cases ha with
  | rc _ _ _ _ b t hn hc hle hs0=>
   refine ⟨.pointer (some ⟨b,j.toNat * sz,none⟩),?_,.pt d m j.toNat 0 b t sz hn⟩
   simp [Instr.indexAt,asIntOf,run_underlying hu,h0,h1,jag hs,jak]
 ·rename_i d m sz o n k j
  have:=jab hi;subst this
  obtain ⟨e,hu,hs⟩:=jau hq.1
  have h0:=hq.2.1
  have h1:=hq.2.2
  cases ha with
  | rv0=>simp at h1;omega
  | rv _ _ _ _ _ b t c hn hle=>
   refine ⟨.pointer (some ⟨b,(o+j.toNat) * sz,none⟩),?_,.pt d m (o+j.toNat) 0 b t sz hn⟩
   simp [Instr.indexAt,asIntOf,run_underlying hu,h0,h1,jag hs,jak,Nat.add_mul]
 ·rename_i d m k j kk i
  have:=jab hi;subst this
  unfold jkf at *
  split at hq
  ·rename_i len s e
   obtain ⟨el,hu,hs⟩:=jdu e
   cases ha with
   | pt _ _ _ _ b t sz hn=>
    refine ⟨.pointer (some ⟨b,k * sz+(j+i.toNat * s),none⟩),?_,.pt d m k _ b t sz hn⟩
    simp [Instr.indexAt,asIntOf,run_underlying hu,hq.1,hq.2,jag hs,jak,Instr.sureAddr,Nat.add_assoc]
  ·exact hq.elim
 ·rename_i cs kk i
  have:=jab hi;subst this
  unfold jkf at *
  split at hq
  ·rename_i len s e
   obtain ⟨el,hu,hs⟩:=jdu e
   cases ha with
   | ip _ ad vs hb hH hcell hr=>
    refine ⟨.pointer (some (ad.add (i.toNat * s))),?_,.ip _ _ (fun m=>vs (i.toNat * s+m)) (by rw [jam];exact hb) (by rw [jam];exact hH) (fun m hm=>?_) (fun m u hu=>?_)⟩
    ·simp [Instr.indexAt,asIntOf,run_underlying hu,hq.1,hq.2,jag hs,Instr.sureAddr]
    ·rw [jbF];exact hcell _ (by simp at hm;omega)
    ·exact hr _ u (by rwa [List.getElem?_drop] at hu)
  ·exact hq.elim
theorem jfm (t:TypeId) {a i:AV} {va vi:Value} (ha:RelV w a va) (hi:RelV w i vi):jcV P w (Instr.index t va vi) (jbB P t a i):=by
 intro hq
 unfold jbB at *
 split at hq<;>try exact hq.elim
 rename_i s k j
 have:=jab hi;have:=jab ha;subst_vars
 have ht:=jlU hq.1
 have h0:=hq.2.1
 have h1:j.toNat < s.size:=by have:=hq.2.2;omega
 refine ⟨.int .u8 (jbS s j),?_,.raw _⟩
 have h2:s[j.toNat]?=some s[j.toNat]:=by simp [h1]
 have h3:jbS s j=(s[j.toNat].toNat:Int):=by
  have h4:s.data[j.toNat]?=some s[j.toNat]:=Array.getElem?_eq_getElem h1
  simp only [jbS,h4,Option.getD_some]
 simp [Instr.index,asIntOf,run_underlying ht,h0,h2,h3]
theorem jd6 {a:AV} {v:Value} (h:RelV w a v) (i:Nat):jcV P w (Instr.extract v i) (jaM a i):=by
 intro hq
 unfold jaM at *
 split at hq<;>try exact hq.elim
 rename_i cs
 cases h with | tup _ vs hl hr=>
 simp only at hq
 have h1:vs[i]?=some (vs[i]'(by omega)):=Array.getElem?_eq_getElem (by omega)
 refine ⟨vs[i]'(by omega),by simp [Instr.extract,h1],hr i _ _ ?_ h1⟩
 simp [List.getElem?_eq_getElem hq]
theorem jgh (fn:Fn) {a b:List AV} {va vb:List Value} (ha:RelL w a va) (hb:RelL w b vb):jcV P w (Instr.makeFunc fn va.toArray vb.toArray) (jfk fn a b):=by
 intro hq
 unfold jfk at *
 split at hq<;>try exact hq.elim
 ·rename_i f
  have:va=[]:=by have:=ha.1;simpa using this.symm
  subst this
  exact ⟨.func (.func f) #[] vb.toArray,by simp [Instr.makeFunc],.clo f _ _ (by rw [hb.1];simp) (fun i a v h1 h2=>hb.2 i a v h1 (by simpa using h2))⟩
 ·rename_i f x l
  have hq:b=[]:=hq
  subst hq
  have:vb=[]:=by have:=hb.1;simpa using this.symm
  subst this
  exact ⟨.func (.func f) va.toArray #[],by simp [Instr.makeFunc],.bd f _ _ (by rw [ha.1];simp) (fun i a v h1 h2=>ha.2 i a v h1 (by simpa using h2))⟩
 ·rename_i m x
  have hq:b=[]:=hq
  subst hq
  have:vb=[]:=by have:=hb.1;simpa using this.symm
  subst this
  obtain ⟨u,rfl⟩:∃ u,va=[u]:=by
   have:=ha.1
   match va,this with
   | [u],_=>exact ⟨u,rfl⟩
  exact ⟨.func (.method m) #[u] #[],by simp [Instr.makeFunc],.mv m _ _ (ha.2 0 _ _ rfl rfl)⟩
theorem jfl (t:TypeId) {a:AV} {v:Value} (h:RelV w a v):jcV P w (Instr.makeInterface t v) (jde P t a):=by
 intro hq
 unfold jde at *
 split at hq<;>try exact hq.elim
 ·rename_i u d e1 e2
  have:=jab h;subst this
  refine ⟨.iface t v,?_,.raw _⟩
  simp only [Instr.makeInterface,Sem.run_bind,run_underlying e2,Result.andThen_ok]
  cases d<;>first | rfl | (simp [jd1,e2] at e1)
 ·rename_i d _ e1 hu
  refine ⟨.iface t v,?_,.ifc t _ v h⟩
  simp only [Instr.makeInterface,Sem.run_bind,run_underlying hu,Result.andThen_ok]
  cases d<;>first | rfl | (simp [jd1,hu] at e1)
theorem jnS {t:TypeId} (h:jgR P t=true):∃ k e,P.underlying t=some (.map k e):=by
 unfold jgR at h
 split at h
 ·exact ⟨_,_,by assumption⟩
 ·cases h
theorem jc4:∀ (n:Nat) (ks vs:List Value),(jco n ks vs).length=min ks.length vs.length
 | n,[],vs=>by simp [jco]
 | n,k::ks,[]=>by simp [jco]
 | n,k::ks,v::vs=>by simp [jco,jc4 (n+1) ks vs]
theorem jg5 (ty t:TypeId) (ts:List TypeId) {a:AV} {v:Value} (vs:List Value) (hw:RelW w H) (h:RelV w a v):jcV P w (Builtin.len_ (t::ts).toArray ty (v::vs).toArray) (jg4 P H t a):=by
 intro hq
 unfold jg4 at *
 split at hq<;>try exact hq.elim
 ·split at hq<;>try exact hq.elim
  rename_i hm
  rw [if_pos hm]
  split at hq<;>try exact hq.elim
  rename_i ks vs hi
  obtain ⟨k,e,ht⟩:=jnS hq
  cases h with
  | mr _ b t' s hn=>
   obtain ⟨hok,z,hz,hrow⟩:=hw.rows _ _ hi
   have:z=.at b t' s:=by have hz:w.nm _ 0=some z:=hz;rw [hn] at hz;cases hz;rfl
   subst this
   obtain ⟨_,cur,hh,hfit,_⟩:=hrow
   have hh:w.heap[b]?=some (.map (jco 0 ks cur.toList).toArray ks.length):=hh
   have hfit:cur.size=vs.length:=hfit
   have hok:ks.length=vs.length:=hok
   refine ⟨_,?_,.raw _⟩
   simp [Builtin.len_,run_underlying ht,MapKept.run_getObj_map hh,goInt,jc4,hok,hfit]
 ·obtain ⟨e,ht⟩:=jbt hq
  cases h<;>exact ⟨_,by simp [Builtin.len_,run_underlying ht,goInt];try rfl,.raw _⟩
 ·obtain ⟨e,ht⟩:=jbt hq
  cases h<;>exact ⟨_,by simp [Builtin.len_,run_underlying ht,goInt];try rfl,.raw _⟩
 ·obtain ⟨e,ht⟩:=jbt hq
  cases h<;>exact ⟨_,by simp [Builtin.len_,run_underlying ht,goInt];try rfl,.raw _⟩
 ·obtain ⟨e,ht⟩:=jbt hq
  cases h<;>exact ⟨_,by simp [Builtin.len_,run_underlying ht,goInt];try rfl,.raw _⟩
 ·obtain ⟨e,ht⟩:=jbt hq
  have:=jab h;subst this
  exact ⟨_,by simp [Builtin.len_,run_underlying ht,goInt],.raw _⟩
 ·have ht:=jlU hq
  have:=jab h;subst this
  exact ⟨_,by simp [Builtin.len_,run_underlying ht,goInt],.raw _⟩
theorem jg2 (ty t:TypeId) (ts:List TypeId) {a:AV} {v:Value} (vs:List Value) (h:RelV w a v):jcV P w (Builtin.cap_ (t::ts).toArray ty (v::vs).toArray) (jkg P t a):=by
 intro hq
 unfold jkg at *
 split at hq<;>try exact hq.elim
 ·obtain ⟨e,ht⟩:=jbt hq
  cases h with
  | sl0 _ _ _ c hx=>have:=hx rfl;subst this;exact ⟨_,by simp [Builtin.cap_,run_underlying ht,goInt],.raw _⟩
  | sl _ _ _ _ c _ _ _ hx=>have:=(hx rfl).1;subst this;exact ⟨_,by simp [Builtin.cap_,run_underlying ht,goInt],.raw _⟩
 ·obtain ⟨e,ht⟩:=jbt hq
  cases h;exact ⟨_,by simp [Builtin.cap_,run_underlying ht,goInt],.raw _⟩
 ·obtain ⟨e,ht⟩:=jbt hq
  have:=jab h;subst this
  exact ⟨_,by simp [Builtin.cap_,run_underlying ht,goInt],.raw _⟩
end
end Go.Gd

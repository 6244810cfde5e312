/- Lemmas. No conditions. -/
import Derived.Tactics
import Derived.Lib.ItoaNum
import Derived.Below
import Derived.Laws.AppendOwn
import Derived.Laws.Cells
import Derived.Deep.LoopGhost
import Derived.Orders
import Derived.Scope
set_option linter.all false
namespace Go.Gd
open Go
variable{p:Prop}
theorem jB(h:p:=by first|(omega)|fail):p:=h
theorem jC(h:p:=by first|(decide)|fail):p:=h
theorem jD(h:p:=by first|(simp only[go_sem])|fail):p:=h
theorem jE(h:p:=by first|(simp)|fail):p:=h
theorem jF(h:p:=by first|(simp;omega)|fail):p:=h
theorem jG(h:p:=by first|(kernel_rfl)|fail):p:=h
theorem jH(h:p:=by first|(intro;omega)|fail):p:=h
theorem jJ(h:p:=by first|((try simp only);omega)|fail):p:=h
theorem jz(h:p:=by first|contradiction|omega|fail):p:=h
theorem jl{n:Nat}:n<=n:=Nat.le_refl n
theorem vF(h:p:=by first|(simp only[go_sem,↓reduceIte,Int.reduceEq,Int.reduceLE,Int.reduceLT,Int.reduceNe,Int.reduceToNat,Nat.reduceMul,Nat.reduceAdd,Nat.reduceLeDiff,Nat.reduceSub,Nat.reduceEqDiff,Nat.reduceBEq,List.nodup_cons,List.nodup_nil,List.mem_cons,List.not_mem_nil,List.mem_nil_iff];done)|fail):p:=h
theorem ug(h:p:=by first|(simp only[go_sem,↓reduceIte,Int.reduceEq,Int.reduceLE,Int.reduceLT,Int.reduceNe,Int.reduceToNat,Nat.reduceMul,Nat.reduceAdd,Nat.reduceLeDiff,Nat.reduceSub,Nat.reduceEqDiff,Nat.reduceBEq,List.nodup_cons,List.nodup_nil,List.mem_cons,List.not_mem_nil,List.mem_nil_iff];rfl)|fail):p:=h
theorem jI:True:=⟨⟩
theorem jN {α:Sort _} {c:Prop} [Decidable c] {a b:α} (h:¬c:=by omega):(if c then a else b)=b:=if_neg h
theorem jP {α:Sort _} {c:Prop} [Decidable c] {a b:α} (h:c:=by omega):(if c then a else b)=a:=if_pos h
theorem jA {a b:Prop}(h:a)(k:b):a∧b:=⟨h,k⟩
def A6:List (Nat×List Value):=[(0,Lib.pow10Tab.map (Value.int .u64))]
def jX:List Nat:=[147,161,186,286]
inductive AV where
 |raw (v:Value)
 |any
 |agg (cs:List AV)
 |bj (vs:List AV)
 |sl (x:Bool) (sz:Nat) (css:List (List AV)) (d:List AV)
 |ip (cs:List AV)
 |gd (p:Bool) (v:AV)
 |fQ (f:FuncId) (cs:List AV)
 |pt (i m k j:Nat)
 |rs (i m sz n:Nat)
 |rv (i m sz o n:Nat)
 |mr (i:Nat)
 |bd (f:FuncId) (fs:List AV)
 |kH (t:TypeId) (v:AV)
instance:Inhabited AV:=⟨.any⟩
mutual
def AV.all(q:Nat->Bool):AV->Bool
 |.agg cs=>aW q cs
 |.bj cs=>aW q cs
 |.fQ _ cs=>aW q cs
 |.bd _ fs=>aW q fs
 |.kH _ v=>v.all q
 |.gd _ v=>v.all q
 |.pt i _ _ _=>q i
 |.rs i _ _ _=>q i
 |.rv i _ _ _ _=>q i
 |.mr i=>q i
 |.raw _=>true
 |.any=>true
 |.sl _ _ _ _=>true
 |.ip _=>true
def aW(q:Nat->Bool):List AV->Bool
 |[]=>true
 |a::l=>a.all q && aW q l
end
theorem mz{q:Nat->Bool}:∀{l:List AV},aW q l=true->∀{i:Nat} {a:AV},l[i]?=some a->a.all q=true
 |[],_,i,a,h=>by simp at h
 |x::l,hl,i,a,h=>by
  simp only[aW,Bool.and_eq_true]at hl;cases i with
  |zero=>simp at h;subst h;exact hl.1
  |succ i=>exact mz hl.2 (by simpa using h)
mutual
theorem rZ{q p:Nat->Bool}(hq:∀i,q i=true->p i=true):∀a:AV,a.all q=true->a.all p=true
 |.agg cs,h=>by simp only[AV.all]at h ⊢;exact fh hq cs h
 |.bj cs,h=>by simp only[AV.all]at h ⊢;exact fh hq cs h
 |.fQ _ cs,h=>by simp only[AV.all]at h ⊢;exact fh hq cs h
 |.bd _ fs,h=>by simp only[AV.all]at h ⊢;exact fh hq fs h
 |.kH _ v,h=>by simp only[AV.all]at h ⊢;exact rZ hq v h
 |.gd _ v,h=>by simp only[AV.all]at h ⊢;exact rZ hq v h
 |.pt i _ _ _,h=>hq i (by simpa only[AV.all]using h)
 |.rs i _ _ _,h=>hq i (by simpa only[AV.all]using h)
 |.rv i _ _ _ _,h=>hq i (by simpa only[AV.all]using h)
 |.mr i,h=>hq i (by simpa only[AV.all]using h)
 |.raw _,_=>by simp only[AV.all]
 |.any,_=>by simp only[AV.all]
 |.sl _ _ _ _,_=>by simp only[AV.all]
 |.ip _,_=>by simp only[AV.all]
theorem fh{q p:Nat->Bool}(hq:∀i,q i=true->p i=true):∀l:List AV,aW q l=true->aW p l=true
 |[],_=>rfl
 |a::l,h=>by simp only[aW,Bool.and_eq_true]at h ⊢;exact⟨rZ hq a h.1,fh hq l h.2⟩
end
mutual
theorem o4:∀a:AV,a.all (fun _=>true)=true
 |.agg cs=>by simp only[AV.all];exact xf cs
 |.bj cs=>by simp only[AV.all];exact xf cs
 |.fQ _ cs=>by simp only[AV.all];exact xf cs
 |.bd _ fs=>by simp only[AV.all];exact xf fs
 |.kH _ v=>by simp only[AV.all];exact o4 v
 |.gd _ v=>by simp only[AV.all];exact o4 v
 |.pt i _ _ _=>by simp only[AV.all]
 |.rs i _ _ _=>by simp only[AV.all]
 |.rv i _ _ _ _=>by simp only[AV.all]
 |.mr i=>by simp only[AV.all]
 |.raw _=>by simp only[AV.all]
 |.any=>by simp only[AV.all]
 |.sl _ _ _ _=>by simp only[AV.all]
 |.ip _=>by simp only[AV.all]
theorem xf:∀l:List AV,aW (fun _=>true) l=true
 |[]=>rfl
 |a::l=>by simp only[aW,Bool.and_eq_true];exact⟨o4 a,xf l⟩
end
inductive Row where
 |var (t:TypeId) (cs:List AV)
 |aL (e:TypeId) (sz:Nat) (css:List (List AV))
 |mp (ks:List Value) (vs:List AV)
def Row.fP:Row->Nat
 |.var _ _=>0
 |.aL _ _ css=>css.length
 |.mp _ _=>0
def Row.elem:Row->TypeId
 |.var t _=>t
 |.aL e _ _=>e
 |.mp _ _=>0
def Row.bA:Row->Nat
 |.var _ _=>0
 |.aL _ sz _=>sz
 |.mp _ _=>0
def Row.cells:Row->List AV
 |.var _ cs=>cs
 |.aL _ _ css=>css.flatten
 |.mp _ vs=>vs
def Row.ok:Row->Prop
 |.var _ _=>True
 |.aL _ sz css=>0<sz/\∀cs∈css,cs.length=sz
 |.mp ks vs=>ks.length=vs.length
def iM:Nat->List Value->List Value->List MapEntry
 |n,k::ks,v::vs=>⟨k,v,n⟩::iM (n+1) ks vs
 |_,_,_=>[]
def Row.obj(r:Row)(cur:Array Value):Obj:=match r with
 |.mp ks _=>.map (iM 0 ks cur.toList).toArray ks.length
 |.var t _=>.cells cur t (0,0)
 |.aL e _ _=>.cells cur e (0,0)
def Row.fit(r:Row)(n t:Nat):Prop:=match r with
 |.mp _ vs=>n=vs.length
 |.var ty cs=>n=t/\(Row.var ty cs).cells.length<=t
 |.aL e sz css=>n=t/\(Row.aL e sz css).cells.length<=t
def Row.y7:Row->Bool
 |.mp _ _=>false
 |_=>true
variable{r:Row}
theorem Row.sL(h:r.y7=true)(cur:Array Value):r.obj cur=.cells cur r.elem (0,0):=by
 cases r with
 |var t cs=>rfl
 |aL e sz css=>rfl
 |mp ks vs=>cases h
theorem Row.rH(h:r.y7=true)(n t:Nat):r.fit n t=(n=t/\r.cells.length<=t):=by
 cases r with
 |var t cs=>rfl
 |aL e sz css=>rfl
 |mp ks vs=>cases h
structure Hp where
 B:List Nat
 l:List (Nat×Row)
def av:List (Nat×Row)->Nat->Option Row
 |[],_=>none
 |(j,r)::l,i=>if i=j then some r else av l i
def br:List (Nat×Row)->Nat->Row->List (Nat×Row)
 |[],i,r=>[(i,r)]
 |(j,s)::l,i,r=>if i=j then(i,r)::l else(j,s)::br l i r
def xP:List (Nat×Row)->Nat->List (Nat×Row)
 |[],_=>[]
 |(j,s)::l,i=>if i=j then xP l i else(j,s)::xP l i
def Hp.get(H:Hp)(i:Nat):Option Row:=av H.l i
def Hp.put(H:Hp)(i:Nat)(r:Row):Hp:=⟨H.B,br H.l i r⟩
theorem bM:∀(l:List (Nat×Row)) (i j:Nat) (r:Row),av (br l i r) j=if j=i then some r else av l j
 |[],i,j,r=>by simp[br,av]
 |(k,s)::l,i,j,r=>by
  unfold br;split
  ·rename_i h;subst h;simp only[av];split<;>rfl
  ·rename_i h;simp only[av];split
   ·rename_i h2;subst h2;rw[if_neg (fun e=>h e.symm)]
   ·exact bM l i j r
theorem Hp.ba(H:Hp)(i j:Nat)(r:Row):(H.put i r).get j=if j=i then some r else H.get j:=bM _ _ _ _
inductive Rz where
 |nil
 |at(b t s:Nat)
structure NW extends World where
 O:Nat->Prop
 nm:Nat->Nat->Option Rz
instance:Coe NW World:=⟨NW.toWorld⟩
@[reducible] def NW.bare(w:NW):NW:={ w with nm:=fun _ _=>none }
def Ov(w:World)(b:Nat):Prop:=∃cur el,w.heap[b]?=some (.cells cur el (0,0))
inductive aw:NW->AV->Value->Prop
 |raw {w:NW} (v:Value):aw w (.raw v) v
 |any {w:NW} (v:Value):aw w .any v
 |agg {w:NW} (cs:List AV) (vs:Array Value) (hl:cs.length=vs.size) (h:∀(i:Nat) a v,cs[i]?=some a->vs[i]?=some v->aw w a v):aw w (.agg cs) (.agg vs)
 |bj {w:NW} (cs:List AV) (vs:Array Value) (hl:cs.length=vs.size) (h:∀(i:Nat) a v,cs[i]?=some a->vs[i]?=some v->aw w a v):aw w (.bj cs) (.tuple vs)
 |gm {w:NW} {d:List AV} (x:Bool) (sz:Nat) (A:Option Addr) (c:Nat) (hx:x=true->c=0):aw w (.sl x sz [] d) (.slice A 0 c)
 |sl {w:NW} {d:List AV} (x:Bool) (sz:Nat) (css:List (List AV)) (a:Addr) (c:Nat) (vs:Nat->Value) (hn:0<css.length) (hc:css.length<=c) (hx:x=true->c=css.length/\Ov w a.block) (hsz:∀cs∈css,cs.length=sz)
   (hb:a.block<w.heap.size) (hH:¬w.O a.block) (hcell:∀i j,i<css.length->j<sz->w.cell? (a.add (i*sz+j))=some (vs (i*sz+j)))
   (h:∀i (j:Nat) u,i<css.length->(css.getD i [])[j]?=some u->aw w.bare u (vs (i*sz+j))):aw w (.sl x sz css d) (.slice (some a) css.length c)
 |ip {w:NW} (cs:List AV) (a:Addr) (vs:Nat->Value) (hb:a.block<w.heap.size) (hH:¬w.O a.block) (hcell:∀j,j<cs.length->w.cell? (a.add j)=some (vs j))
   (h:∀(j:Nat) u,cs[j]?=some u->aw w.bare u (vs j)):aw w (.ip cs) (.pointer (some a))
 |gd {w:NW} (p:Bool) (a:AV) (v:Value) (h:p=true->aw w a v) (hu:p=false->v=undef):aw w (.gd p a) v
 |fQ {w:NW} (f:FuncId) (cs:List AV) (vs:Array Value) (hl:cs.length=vs.size) (h:∀(i:Nat) a v,cs[i]?=some a->vs[i]?=some v->aw w a v):aw w (.fQ f cs) (.func (.func f) #[] vs)
 |pt {w:NW} (i m k j b t s:Nat) (h:w.nm i m=some (.at b t s)):aw w (.pt i m k j) (.pointer (some ⟨b,k*s+j,none⟩))
 |iO {w:NW} (i m sz:Nat) (A:Option Addr) (h:w.nm i m=some .nil):aw w (.rs i m sz 0) (.slice A 0 0)
 |rs {w:NW} (i m sz n b t c:Nat) (h:w.nm i m=some (.at b t sz)) (hc:c*sz=t) (hn:n<=c) (hs:0<sz):aw w (.rs i m sz n) (.slice (some ⟨b,0,none⟩) n c)
 |lu {w:NW} (i m sz o c:Nat) (A:Option Addr):aw w (.rv i m sz o 0) (.slice A 0 c)
 |rv {w:NW} (i m sz o n b t c:Nat) (h:w.nm i m=some (.at b t sz)) (hn:n<=c):aw w (.rv i m sz o n) (.slice (some ⟨b,o*sz,none⟩) n c)
 |mr {w:NW} (i b t s:Nat) (h:w.nm i 0=some (.at b t s)):aw w (.mr i) (.map (some b))
 |bd {w:NW} (f:FuncId) (fs:List AV) (vs:Array Value) (hl:fs.length=vs.size) (h:∀(i:Nat) a v,fs[i]?=some a->vs[i]?=some v->aw w a v):aw w (.bd f fs) (.func (.func f) vs #[])
 |kH {w:NW} (t:TypeId) (a:AV) (v:Value) (h:aw w a v):aw w (.kH t a) (.iface t v)
def cf(w:NW)(cs:List AV)(vs:List Value):Prop:=cs.length=vs.length/\∀(i:Nat) a v,cs[i]?=some a->vs[i]?=some v->aw w a v
def bc(w:NW)(F:List AV)(tm:Array Value):Prop:=F.length=tm.size/\∀(i:Nat) a v,F[i]?=some a->tm[i]?=some v->aw w a v
def iU(w:NW)(r:Row):Rz->Prop
 |.nil=>∃e sz,r=.aL e sz []
 |.at b t s=>s=r.bA/\∃cur:Array Value,w.heap[b]?=some (r.obj cur)/\r.fit cur.size t/\∀(i:Nat) a v,r.cells[i]?=some a->cur[i]?=some v->aw w a v
structure Keep(q:Nat->Bool)(w w':NW):Prop where
 size:w.heap.size<=w'.heap.size
 free:∀b,b<w.heap.size->¬w.O b->w'.heap[b]?=w.heap[b]?/\¬w'.O b
 names:∀i m z,q i=true->w.nm i m=some z->w'.nm i m=some z
def lD(w:NW):Prop:=∀g vs,(g,vs)∈A6->(∃cur el fr,w.heap[g]?=some (.cells cur el fr)/\cur.toList=vs)/\¬w.O g
variable{w:NW}
theorem lD.aY{q:Nat->Bool}{w':NW}(h:lD w)(k:Keep q w w'):lD w':=fun g vs hm=>by obtain⟨⟨cur,el,fr,h1,h2⟩,h3⟩:=h g vs hm;have:=k.free g (Array.getElem?_eq_some_iff.1 h1).1 h3;exact⟨⟨cur,el,fr,this.1.trans h1,h2⟩,this.2⟩
structure aO(w:NW)(H:Hp):Prop where
 cn:lD w
 rows:∀i r,H.get i=some r->r.ok/\∃z,w.nm i r.fP=some z/\iU w r z
 dO:∀i m z,w.nm i m=some z->∃r,H.get i=some r/\m<=r.fP
 inj:∀i m j n b t s t' s',w.nm i m=some (.at b t s)->w.nm j n=some (.at b t' s')->i=j
 own:∀i m b t s,w.nm i m=some (.at b t s)->w.O b
 fin:∀b,w.O b->b<w.heap.size
structure ExtQ(q:Nat->Bool)(w w':NW):Prop extends Keep q w w' where
 os:w'.os=w.os
 tape:w'.tape=w.tape
 output:w'.output=w.output
 rest:∀b,b<w.heap.size->w.O b->(∀i m t s,w.nm i m≠some (.at b t s))->w'.heap[b]?=w.heap[b]?/\w'.O b/\∀i m t s,w'.nm i m≠some (.at b t s)
abbrev su:Nat->Bool:=fun _=>true
structure Ext(w:NW)(H:Hp)(w':NW)(H':Hp):Prop extends ExtQ su w w' where
 base:H'.B=H.B
structure fB(w:NW)(H:Hp)(w':NW)(H':Hp):Prop extends ExtQ (fun i=>H.B.contains i) w w' where
 base:H'.B=H.B
theorem Keep.refl(q:Nat->Bool)(w:NW):Keep q w w:=⟨Nat.le_refl _,fun _ _ h=>⟨rfl,h⟩,fun _ _ _ _ h=>h⟩
theorem ExtQ.refl(q:Nat->Bool)(w:NW):ExtQ q w w:={ Keep.refl q w with os:=rfl,tape:=rfl,output:=rfl,rest:=fun _ _ h k=>⟨rfl,h,k⟩ }
theorem Ext.refl(w:NW)(H:Hp):Ext w H w H:={ ExtQ.refl _ w with base:=rfl }
theorem fB.refl(w:NW)(H:Hp):fB w H w H:={ ExtQ.refl _ w with base:=rfl }
theorem Keep.trans{q:Nat->Bool}{a b c:NW}(h:Keep q a b)(k:Keep q b c):Keep q a c:=
 ⟨Nat.le_trans h.size k.size,fun n hn hO=>⟨(k.free n (Nat.lt_of_lt_of_le hn h.size) (h.free n hn hO).2).1.trans (h.free n hn hO).1,(k.free n (Nat.lt_of_lt_of_le hn h.size) (h.free n hn hO).2).2⟩,fun i m z hq hz=>k.names i m z hq (h.names i m z hq hz)⟩
theorem ExtQ.trans{q:Nat->Bool}{a b c:NW}(h:ExtQ q a b)(k:ExtQ q b c):ExtQ q a c:={ h.toKeep.trans k.toKeep with
 os:=k.os.trans h.os,tape:=k.tape.trans h.tape,output:=k.output.trans h.output
 rest:=fun n hn hO hno=>by obtain⟨h1,h2,h3⟩:=h.rest n hn hO hno;obtain⟨k1,k2,k3⟩:=k.rest n (Nat.lt_of_lt_of_le hn h.size) h2 h3;exact⟨k1.trans h1,k2,k3⟩ }
theorem ExtQ.mono{q p:Nat->Bool}{a b:NW}(h:ExtQ q a b)(hp:∀i,p i=true->q i=true):ExtQ p a b:={ h with names:=fun i m z hq hz=>h.names i m z (hp i hq) hz }
theorem Ext.trans{a b c:NW}{H H' H'':Hp}(h:Ext a H b H')(k:Ext b H' c H''):Ext a H c H'':={ h.toExtQ.trans k.toExtQ with base:=k.base.trans h.base }
theorem fB.trans{a b c:NW}{H H' H'':Hp}(h:fB a H b H')(k:fB b H' c H''):fB a H c H'':={ h.toExtQ.trans (k.toExtQ.mono fun i hi=>by rw[h.base];exact hi)with base:=k.base.trans h.base }
variable{H:Hp}
theorem Ext.pB{a b:NW}{H':Hp}(h:Ext a H b H'):fB a H b H':={ h.toExtQ.mono fun _ _=>rfl with base:=h.base }
theorem pA(a:Addr)(n:Nat):(a.add n).block=a.block:=by unfold Addr.add;split<;>rfl
theorem wh(a:Addr)(i j:Nat):(a.add i).add j=a.add (i+j):=by unfold Addr.add;by_cases hi:i=0<;>by_cases hj:j=0<;>simp[hi,hj,Nat.add_assoc]
theorem Fc(a:Addr):a.add 0=a:=rfl
theorem lM(b o n:Nat):(⟨b,o,none⟩:Addr).add n=⟨b,o+n,none⟩:=by unfold Addr.add;split<;>simp_all
theorem Keep.bare{q:Nat->Bool}{w w':NW}(k:Keep q w w'):Keep su w.bare w'.bare:=⟨k.size,k.free,fun i m z _ h=>by cases h⟩
theorem aw.aY{a:AV}{v:Value}(h:aw w a v):∀{q:Nat->Bool} {w':NW},Keep q w w'->a.all q=true->aw w' a v:=by
 induction h with
 |raw v=>intro q w' _ _;exact .raw v
 |any v=>intro q w' _ _;exact .any v
 |agg cs vs hl _ ih=>intro q w' k ha;simp only[AV.all]at ha;exact .agg cs vs hl fun i a v h1 h2=>ih i a v h1 h2 k (mz ha h1)
 |bj cs vs hl _ ih=>intro q w' k ha;simp only[AV.all]at ha;exact .bj cs vs hl fun i a v h1 h2=>ih i a v h1 h2 k (mz ha h1)
 |gm x sz A c hx=>intro q w' _ _;exact .gm x sz A c hx
 |@sl w d x sz css a c vs hn hc hx hsz hb hH hcell _ ih=>
  intro q w' k _;have hk:=k.free _ hb hH;refine .sl x sz css a c vs hn hc (fun h=>⟨(hx h).1,by obtain⟨cur,el,hp⟩:=(hx h).2;exact⟨cur,el,hk.1.trans hp⟩⟩) hsz (Nat.lt_of_lt_of_le hb k.size) hk.2 (fun i j hi hj=>?_) fun i j u hi hu=>ih i j u hi hu k.bare (o4 u)
  rw[World.cell?_of_block (w:=w.toWorld) (by rw[pA];exact hk.1)];exact hcell i j hi hj
 |@ip w cs a vs hb hH hcell _ ih=>
  intro q w' k _;have hk:=k.free _ hb hH;refine .ip cs a vs (Nat.lt_of_lt_of_le hb k.size) hk.2 (fun j hj=>?_) fun j u hu=>ih j u hu k.bare (o4 u)
  rw[World.cell?_of_block (w:=w.toWorld) (by rw[pA];exact hk.1)];exact hcell j hj
 |gd p a v _ hu ih=>intro q w' k ha;exact .gd p a v (fun hp=>ih hp k (by simpa only[AV.all]using ha)) hu
 |fQ f cs vs hl _ ih=>intro q w' k ha;simp only[AV.all]at ha;exact .fQ f cs vs hl fun i a v h1 h2=>ih i a v h1 h2 k (mz ha h1)
 |pt i m o j b t s h=>intro q w' k ha;exact .pt i m o j b t s (k.names _ _ _ (by simpa only[AV.all]using ha) h)
 |iO i m sz A h=>intro q w' k ha;exact .iO i m sz A (k.names _ _ _ (by simpa only[AV.all]using ha) h)
 |rs i m sz n b t c h hc hn hs=>intro q w' k ha;exact .rs i m sz n b t c (k.names _ _ _ (by simpa only[AV.all]using ha) h) hc hn hs
 |lu i m sz o c A=>intro q w' _ _;exact .lu i m sz o c A
 |rv i m sz o n b t c h hn=>intro q w' k ha;exact .rv i m sz o n b t c (k.names _ _ _ (by simpa only[AV.all]using ha) h) hn
 |mr i b t s h=>intro q w' k ha;exact .mr i b t s (k.names _ _ _ (by simpa only[AV.all]using ha) h)
 |bd f fs vs hl _ ih=>intro q w' k ha;simp only[AV.all]at ha;exact .bd f fs vs hl fun i a v h1 h2=>ih i a v h1 h2 k (mz ha h1)
 |kH t a v _ ih=>intro q w' k ha;exact .kH t a v (ih k (by simpa only[AV.all]using ha))
theorem aw.ext{w':NW}{H':Hp}(e:Ext w H w' H'){a:AV}{v:Value}(h:aw w a v):aw w' a v:=h.aY e.toKeep (o4 a)
theorem cf.ext{w w':NW}{H H':Hp}(e:Ext w H w' H'){cs:List AV}{vs:List Value}(h:cf w cs vs):cf w' cs vs:=⟨h.1,fun i a v ha hv=>(h.2 i a v ha hv).ext e⟩
theorem bc.ext{w w':NW}{H H':Hp}(e:Ext w H w' H'){F:List AV}{tm:Array Value}(h:bc w F tm):bc w' F tm:=⟨h.1,fun i a v ha hv=>(h.2 i a v ha hv).ext e⟩
theorem bc.aY{q:Nat->Bool}{w w':NW}(k:Keep q w w'){F:List AV}{tm:Array Value}(h:bc w F tm)(hF:aW q F=true):bc w' F tm:=⟨h.1,fun i a v ha hv=>(h.2 i a v ha hv).aY k (mz hF ha)⟩
theorem cf.aY{q:Nat->Bool}{w w':NW}(k:Keep q w w'){F:List AV}{tm:List Value}(h:cf w F tm)(hF:aW q F=true):cf w' F tm:=⟨h.1,fun i a v ha hv=>(h.2 i a v ha hv).aY k (mz hF ha)⟩
abbrev dY:Nat->Bool:=fun _=>false
theorem Keep.kS(w:NW):Keep dY w w.bare:=⟨Nat.le_refl _,fun _ _ h=>⟨rfl,h⟩,fun _ _ _ h _=>by cases h⟩
theorem Keep.l7(w:NW):Keep su w.bare w:=⟨Nat.le_refl _,fun _ _ h=>⟨rfl,h⟩,fun _ _ _ _ h=>by cases h⟩
theorem aw.kS{w:NW}{a:AV}{v:Value}(h:aw w a v)(ha:a.all dY=true):aw w.bare a v:=h.aY (Keep.kS w) ha
theorem aw.l7{w:NW}{a:AV}{v:Value}(h:aw w.bare a v):aw w a v:=h.aY (Keep.l7 w) (o4 a)
variable{i:Nat}
theorem aO.lt(h:aO w H){m b t s:Nat}(hn:w.nm i m=some (.at b t s)):b<w.heap.size:=h.fin b (h.own _ _ _ _ _ hn)
theorem aO.none{w:NW}{H:Hp}(h:aO w H){i:Nat}(hi:H.get i=none)(m:Nat):w.nm i m=none:=by
 cases e:w.nm i m with
 |none=>rfl
 |some z=>obtain⟨r,hr,_⟩:=h.dO i m z e;rw[hi]at hr;cases hr
theorem aO.later(h:aO w H){m:Nat}(hi:H.get i=some r)(hm:r.fP<m):w.nm i m=Option.none:=by
 cases e:w.nm i m with
 |none=>rfl
 |some z=>obtain⟨s,hs,hle⟩:=h.dO i m z e;rw[hi]at hs;cases hs;omega
theorem iU.ext{w w':NW}{H H':Hp}(e:Ext w H w' H'){r:Row}{z:Rz}(hz:∀b t s,z=.at b t s->w'.heap[b]?=w.heap[b]?)(h:iU w r z):iU w' r z:=by
 cases z with
 |nil=>exact h
 |«at» b t s=> obtain⟨h1,cur,h2,h3,h5⟩:=h;exact⟨h1,cur,(hz b t s rfl).trans h2,h3,fun i a v ha hv=>(h5 i a v ha hv).ext e⟩
@[reducible] def NW.to(w:NW)(W:World):NW:={ w with toWorld:=W }
def NW.name(w:NW)(i m:Nat)(z:Rz):NW:={ w with nm:=fun j n=>if j=i/\n=m then some z else w.nm j n }
theorem NW.ca(w:NW)(i m:Nat)(z:Rz):(w.name i m z).nm i m=some z:=if_pos ⟨rfl,rfl⟩
def NW.fV(w:NW)(b:Nat):NW:={ w with O:=fun c=>c=b\/w.O c }
theorem Ext.fg(r:aO w H)(o:Obj):Ext w H (w.to (w.alloc o)) H:={
 size:=jE
 free:=fun b hb hn=>⟨RowKit.Below.heap_alloc w.toWorld o b hb,hn⟩
 names:=fun _ _ _ _ h=>h
 os:=rfl,tape:=rfl,output:=rfl
 rest:=fun b hb hO hno=>⟨RowKit.Below.heap_alloc w.toWorld o b hb,hO,hno⟩
 base:=rfl }
theorem aO.fg{w:NW}{H:Hp}(r:aO w H)(o:Obj):aO (w.to (w.alloc o)) H:={
 rows:=fun i row hi=>by obtain⟨h1,z,h2,h3⟩:=r.rows i row hi;refine⟨h1,z,h2,h3.ext (Ext.fg r o) fun b t s e=>?_⟩;subst e;exact RowKit.Below.heap_alloc w.toWorld o b (r.lt h2)
 dO:=r.dO,inj:=r.inj,own:=r.own
 cn:=r.cn.aY (Ext.fg r o).toKeep
 fin:=fun b hb=>by have:=r.fin b hb;simp;omega }
theorem Ext.drew(w:NW)(H:Hp):Ext w H (w.to w.drew) H:={ size:=Nat.le_refl _,free:=fun _ _ h=>⟨rfl,h⟩,names:=fun _ _ _ _ h=>h,os:=rfl,tape:=rfl,output:=rfl,rest:=fun _ _ h k=>⟨rfl,h,k⟩,base:=rfl }
theorem aO.drew{w:NW}{H:Hp}(r:aO w H):aO (w.to w.drew) H:={
 rows:=fun i row hi=>by obtain⟨h1,z,h2,h3⟩:=r.rows i row hi;exact⟨h1,z,h2,h3.ext (Ext.drew w H) fun b t s e=>rfl⟩
 dO:=r.dO,inj:=r.inj,own:=r.own,fin:=r.fin,cn:=r.cn.aY (Ext.drew w H).toKeep }
theorem vg(r:aO w H){row:Row}(hfree:w.nm i row.fP=none)(hlater:∀r',H.get i=some r'->r'.fP<=row.fP)(hok:row.ok)(cur:Array Value)(hle:row.fit cur.size cur.size)
  (hc:∀(k:Nat) a v,row.cells[k]?=some a->cur[k]?=some v->aw w a v) :
  aO (((w.to (w.alloc (row.obj cur))).fV w.heap.size).name i row.fP (.at w.heap.size cur.size row.bA)) (H.put i row)/\
  Ext w H (((w.to (w.alloc (row.obj cur))).fV w.heap.size).name i row.fP (.at w.heap.size cur.size row.bA)) (H.put i row):=by
 have ex:Ext w H (((w.to (w.alloc (row.obj cur))).fV w.heap.size).name i row.fP (.at w.heap.size cur.size row.bA)) (H.put i row):={
  size:=by show w.heap.size<=(w.alloc _).heap.size;simp
  free:=fun b hb hn=>⟨RowKit.Below.heap_alloc w.toWorld _ b hb,fun h=>by
   rcases h with h|h
   ·omega
   ·exact hn h⟩
  names:=fun j n z _ h=>by
   show(if j=i/\n=row.fP then _ else _)=_;rw[if_neg]
   ·exact h
   ·rintro⟨rfl,rfl⟩;rw[hfree]at h;cases h
  os:=rfl,tape:=rfl,output:=rfl
  rest:=fun b hb hO hno=>⟨RowKit.Below.heap_alloc w.toWorld _ b hb,.inr hO,fun j n t s h=>by
   have h:(if j=i/\n=row.fP then some (Rz.at w.heap.size cur.size row.bA)else w.nm j n)=some (.at b t s):=h;split at h
   ·cases h;omega
   ·exact hno _ _ _ _ h⟩
  base:=rfl }
 have nmE:∀j n,(((w.to (w.alloc (row.obj cur))).fV w.heap.size).name i row.fP (.at w.heap.size cur.size row.bA)).nm j n=if j=i/\n=row.fP then some (Rz.at w.heap.size cur.size row.bA)else w.nm j n:=fun _ _=>rfl
 refine⟨{ rows:=fun j s hj=>?_,dO:=fun j n z hz=>?_,inj:=fun j n j' n' b t s t' s' h1 h2=>?_,own:=fun j n b t s h=>?_,fin:=fun b hb=>?_,cn:=r.cn.aY ex.toKeep },ex⟩
 ·rw[Hp.ba]at hj;split at hj
  ·rename_i e;subst e;cases hj;refine⟨hok,.at w.heap.size cur.size row.bA,by rw[nmE,if_pos ⟨rfl,rfl⟩],rfl,cur,heap_alloc_new w.toWorld _,hle,fun k a v ha hv=>(hc k a v ha hv).ext ex⟩
  ·rename_i e;obtain⟨h1,z,h2,h3⟩:=r.rows j s hj;refine⟨h1,z,by rw[nmE,if_neg (fun h=>e h.1)];exact h2,h3.ext ex fun b t s e=>?_⟩;subst e;exact RowKit.Below.heap_alloc w.toWorld _ b (r.lt h2)
 ·rw[nmE]at hz;rw[Hp.ba];split at hz
  ·rename_i e;exact⟨row,by rw[if_pos e.1],by rw[e.2];exact Nat.le_refl _⟩
  ·obtain⟨r',h1,h2⟩:=r.dO j n z hz;by_cases e:j=i
   ·subst e;exact⟨row,by rw[if_pos rfl],Nat.le_trans h2 (hlater r' h1)⟩
   ·exact⟨r',by rw[if_neg e];exact h1,h2⟩
 ·rw[nmE]at h1 h2;split at h1<;>split at h2
  ·rename_i e1 e2;rw[e1.1,e2.1]
  ·cases h1;have:=r.lt h2;omega
  ·cases h2;have:=r.lt h1;omega
  ·exact r.inj _ _ _ _ _ _ _ _ _ h1 h2
 ·rw[nmE]at h;split at h
  ·cases h;exact .inl rfl
  ·exact .inr (r.own _ _ _ _ _ h)
 ·show b<(w.alloc _).heap.size;rcases hb with h|h
  ·subst h;simp
  ·have:=r.fin b h;simp;omega
theorem Hs{W:World}(r:aO w H){row row':Row}{b t:Nat}(hi:H.get i=some row)(hn:w.nm i row.fP=some (.at b t row.bA))(hs:row'.bA=row.bA)(hv:row.fP<=row'.fP)(hok:row'.ok)
  (h1:W.os=w.os) (h2:W.tape=w.tape) (h3:W.output=w.output) (hsz:W.heap.size=w.heap.size) (hk:∀c,c≠b->W.heap[c]?=w.heap[c]?) (cur:Array Value) (hnew:W.heap[b]?=some (row'.obj cur)) (hct:row'.fit cur.size t)
  (hc:∀(k:Nat) a v,row'.cells[k]?=some a->cur[k]?=some v->aw w a v) :
  aO ((w.to W).name i row'.fP (.at b t row.bA)) (H.put i row')/\Ext w H ((w.to W).name i row'.fP (.at b t row.bA)) (H.put i row'):=by
 have hO:=r.own _ _ _ _ _ hn;have ex:Ext w H ((w.to W).name i row'.fP (.at b t row.bA)) (H.put i row'):={
  size:=by show w.heap.size<=W.heap.size;omega
  free:=fun c hc hO'=>⟨hk c (fun e=>hO' (e ▸ hO)),hO'⟩
  names:=fun j n z _ h=>by
   show(if j=i/\n=row'.fP then _ else _)=_;split
   ·rename_i e;obtain⟨rfl,rfl⟩:=e;obtain⟨r',g1,g2⟩:=r.dO _ _ _ h;rw[hi]at g1;cases g1;have:row.fP=row'.fP:=jB;rw[<-this,hn]at h;exact h
   ·exact h
  os:=h1,tape:=h2,output:=h3
  rest:=fun c hc hO' hno=>⟨hk c (fun e=>hno _ _ _ _ (e ▸ hn)),hO',fun j n t' s h=>by
   have h:(if j=i/\n=row'.fP then some (Rz.at b t row.bA)else w.nm j n)=some (.at c t' s):=h;split at h
   ·cases h;exact hno _ _ _ _ hn
   ·exact hno _ _ _ _ h⟩
  base:=rfl }
 have nmE:∀j n,((w.to W).name i row'.fP (.at b t row.bA)).nm j n=if j=i/\n=row'.fP then some (Rz.at b t row.bA)else w.nm j n:=fun _ _=>rfl
 refine⟨{ rows:=fun j s hj=>?_,dO:=fun j n z hz=>?_,inj:=fun j n j' n' b' t1 s t' s' g1 g2=>?_,own:=fun j n b' t' s h=>?_,fin:=fun c hb=>?_,cn:=r.cn.aY ex.toKeep },ex⟩
 ·rw[Hp.ba]at hj;split at hj
  ·rename_i e;subst e;cases hj;exact⟨hok,.at b t row.bA,by rw[nmE,if_pos ⟨rfl,rfl⟩],hs.symm,cur,hnew,hct,fun k a v ha hv=>(hc k a v ha hv).ext ex⟩
  ·rename_i e;obtain⟨g1,z,g2,g3⟩:=r.rows j s hj;refine⟨g1,z,by rw[nmE,if_neg (fun h=>e h.1)];exact g2,g3.ext ex fun c t' s' e'=>?_⟩;subst e';exact hk c fun e'=>by subst e';exact e (r.inj _ _ _ _ _ _ _ _ _ g2 hn)
 ·rw[nmE]at hz;rw[Hp.ba];split at hz
  ·rename_i e;exact⟨row',by rw[if_pos e.1],by rw[e.2];exact Nat.le_refl _⟩
  ·obtain⟨r',g1,g2⟩:=r.dO j n z hz;by_cases e:j=i
   ·subst e;rw[hi]at g1;cases g1;exact⟨row',by rw[if_pos rfl],Nat.le_trans g2 hv⟩
   ·exact⟨r',by rw[if_neg e];exact g1,g2⟩
 ·rw[nmE]at g1 g2;split at g1<;>split at g2
  ·rename_i e1 e2;rw[e1.1,e2.1]
  ·rename_i e1 _;cases g1;rw[e1.1];exact r.inj _ _ _ _ _ _ _ _ _ hn g2
  ·rename_i _ e2;cases g2;rw[e2.1];exact r.inj _ _ _ _ _ _ _ _ _ g1 hn
  ·exact r.inj _ _ _ _ _ _ _ _ _ g1 g2
 ·rw[nmE]at h;split at h
  ·cases h;exact hO
  ·exact r.own _ _ _ _ _ h
 ·show c<W.heap.size;have:=r.fin c hb;omega
theorem xB(r:aO w H)(hi:H.get i=none)(e:TypeId){sz:Nat}(hsz:0<sz):aO (w.name i 0 .nil) (H.put i (.aL e sz []))/\Ext w H (w.name i 0 .nil) (H.put i (.aL e sz [])):=by
 have hnone:=r.none hi;have nmE:∀j n,(w.name i 0 .nil).nm j n=if j=i/\n=0 then some Rz.nil else w.nm j n:=fun _ _=>rfl
 have ex:Ext w H (w.name i 0 .nil) (H.put i (.aL e sz [])):={
  size:=Nat.le_refl _,free:=fun _ _ h=>⟨rfl,h⟩
  names:=fun j n z _ h=>by
   rw[nmE,if_neg]
   ·exact h
   ·rintro⟨rfl,rfl⟩;rw[hnone]at h;cases h
  os:=rfl,tape:=rfl,output:=rfl
  rest:=fun b hb hO hno=>⟨rfl,hO,fun j n t s h=>by
   rw[nmE]at h;split at h
   ·cases h
   ·exact hno _ _ _ _ h⟩
  base:=rfl }
 refine⟨{ rows:=fun j s hj=>?_,dO:=fun j n z hz=>?_,inj:=fun j n j' n' b t s t' s' h1 h2=>?_,own:=fun j n b t s h=>?_,fin:=r.fin,cn:=r.cn.aY ex.toKeep },ex⟩
 ·rw[Hp.ba]at hj;split at hj
  ·rename_i e';subst e';cases hj;exact⟨⟨hsz,fun _ h=>by simp at h⟩,.nil,by rw[nmE];exact if_pos ⟨rfl,rfl⟩,e,sz,rfl⟩
  ·rename_i e';obtain⟨h1,z,h2,h3⟩:=r.rows j s hj;exact⟨h1,z,by rw[nmE,if_neg (fun h=>e' h.1)];exact h2,h3.ext ex fun b t s _=>rfl⟩
 ·rw[nmE]at hz;rw[Hp.ba];split at hz
  ·rename_i e';exact⟨_,by rw[if_pos e'.1],by rw[e'.2];exact Nat.zero_le _⟩
  ·obtain⟨r',h1,h2⟩:=r.dO j n z hz;have e':j≠i:=fun e'=>by subst e';rw[hi]at h1;cases h1
   exact⟨r',by rw[if_neg e'];exact h1,h2⟩
 ·rw[nmE]at h1 h2;split at h1
  ·cases h1
  ·split at h2
   ·cases h2
   ·exact r.inj _ _ _ _ _ _ _ _ _ h1 h2
 ·rw[nmE]at h;split at h
  ·cases h
  ·exact r.own _ _ _ _ _ h
def NW.drop(w:NW)(i:Nat):NW:={ w with nm:=fun j n=>if j=i then none else w.nm j n }
def NW.free(w:NW)(i:Nat):NW:={ w with O:=fun b=>w.O b/\∀m t s,w.nm i m≠some (.at b t s),nm:=fun j n=>if j=i then none else w.nm j n }
def GZ(i:Nat):Nat->Bool:=fun j=>!(j == i)
def FP(i:Nat):List (Nat×Row)->Bool
 |[]=>true
 |(j,r)::l=>(j == i || aW (GZ i) r.cells) && FP i l
-- abstract aq
def cc(F:List AV):Operand->AV
 |.tmp t=>F.getD t .any
 |.const v=>.raw v
 |.global g=>.raw (.pointer (some ⟨g,0,none⟩))
 |.func f=>.raw (.func (.func f) #[] #[])
def cA(F:List AV)(d:Option Tmp)(a:AV):List AV:=match d with
 |some d=>F.set d a
 |none=>F
theorem bc.eval{w:NW}{F:List AV}{tm:Array Value}(h:bc w F tm)(ds:List Deferred)(x:Operand):aw w (cc F x) ((Act.mk tm ds).eval x):=by
 cases x with
 |tmp t=>
  simp only[cc,Act.eval];by_cases ht:t<F.length
  ·have ht':t<tm.size:=by rw[<-h.1];exact ht
   have h1:F[t]?=some (F.getD t .any):=by simp[ht]
   have h2:tm[t]?=some (tm.getD t undef):=by simp[ht']
   exact h.2 t _ _ h1 h2
  ·have:F.getD t .any=.any:=by simp[List.getElem?_eq_none (Nat.le_of_not_lt ht)]
   rw[this];exact .any _
 |const v=>exact .raw v
 |global g=>exact .raw _
 |func f=>exact .raw _
theorem bc.put{w:NW}{F:List AV}{tm:Array Value}(h:bc w F tm)(d:Option Tmp){a:AV}{v:Value}(hv:aw w a v)(ds:List Deferred):bc w (cA F d a) ((Act.mk tm ds).put d v).tmps:=by
 cases d with
 |none=>exact h
 |some d=>
  refine⟨by simp[cA,Act.put,h.1],fun i a' v' ha hv'=>?_⟩;simp only[cA,Act.put]at ha hv';rw[List.getElem?_set]at ha;rw[Array.getElem?_setIfInBounds]at hv';by_cases hd:d=i
  ·subst hd;simp only[if_true]at ha hv';split at ha<;>split at hv'<;>simp_all
  ·simp only[if_neg hd]at ha hv';exact h.2 i a' v' ha hv'
theorem Act.put_eq(tm:Array Value)(ds:List Deferred)(d:Option Tmp)(v:Value):(Act.mk tm ds).put d v=⟨((Act.mk tm ds).put d v).tmps,ds⟩:=by cases d<;>rfl
def gh(Q:Exit->List AV->Hp->Prop)(w:NW)(H:Hp):Exit->Act->World->Prop:=fun e a W=> ∃tm F' H' w',W=w'.toWorld/\a=⟨tm,[]⟩/\Q e F' H'/\aO w' H'/\bc w' F' tm/\fB w H w' H'
def dH(P:Program)(c:Code)(Q:Exit->List AV->Hp->Prop)(F:List AV)(H:Hp):Prop:=
 ∀(w:NW) tm,aO w H->bc w F tm->Code.wp P c (gh Q w H) ⟨tm,[]⟩ w.toWorld
def dq(F:List AV)(H:Hp)(F':List AV)(H':Hp):Prop:=∀(w:NW) tm,aO w H->bc w F tm->∃w':NW,w'.toWorld=w.toWorld/\aO w' H'/\bc w' F' tm/\fB w H w' H'
theorem dq.refl(F:List AV)(H:Hp):dq F H F H:=fun w _tm h1 h2=>⟨w,rfl,h1,h2,fB.refl w H⟩
theorem dq.trans{F F' F'':List AV}{H H' H'':Hp}(h:dq F H F' H')(k:dq F' H' F'' H''):dq F H F'' H'':=fun w tm h1 h2=>by obtain⟨w',e,a,b,c⟩:=h w tm h1 h2;obtain⟨w'',e',a',b',c'⟩:=k w' tm a b;exact⟨w'',e'.trans e,a',b',c.trans c'⟩
def jR:List AV->List AV->Prop
 |[],[]=>True
 |a::l,b::m=>(b=.any\/a=b)/\jR l m
 |_,_=>False
theorem jR.refl:∀l,jR l l
 |[]=>trivial
 |_::l=>⟨.inr rfl,jR.refl l⟩
theorem jR.get:∀{l m:List AV},jR l m->l.length=m.length/\∀(i:Nat) a b,l[i]?=some a->m[i]?=some b->b=.any\/a=b
 |[],[],_=>⟨rfl,fun i a b h=>by simp at h⟩
 |x::l,y::m,h=>by
  have ih:=jR.get h.2;refine⟨by simp[ih.1],fun i a b ha hb=>?_⟩;cases i with
  |zero=>simp at ha hb;subst ha hb;exact h.1
  |succ i=>exact ih.2 i a b (by simpa using ha) (by simpa using hb)
theorem dq.pt{F F':List AV}(H:Hp)(h:jR F F'):dq F H F' H:=fun w tm h1 h2=>by
 obtain⟨hl,hg⟩:=h.get;refine⟨w,rfl,h1,⟨hl.symm.trans h2.1,fun i a v ha hv=>?_⟩,fB.refl w H⟩;have hi:i<F.length:=by rw[hl];exact(List.getElem?_eq_some_iff.1 ha).1
 rcases hg i F[i] a (List.getElem?_eq_getElem hi) ha with rfl|he
 ·exact .any v
 ·exact he ▸ h2.2 i _ v (List.getElem?_eq_getElem hi) hv
def Ga(lo n:Nat)(F:List AV):List AV:=F.take lo++List.replicate n .any++F.drop (lo+n)
def lS(W:List (Nat×Nat))(F:List AV):List AV:=W.foldl (fun F d=>Ga d.1 d.2 F) F
section
variable {P:Program}{Q Q':Exit->List AV->Hp->Prop}{F:List AV}{H:Hp}
theorem gh.nj{w w':NW}{H H':Hp}(e:fB w H w' H'){x:Exit}{a:Act}{w'':World}(h:gh Q w' H' x a w''):gh Q w H x a w'':=by obtain⟨tm,F',H'',n,h0,h1,h2,h3,h4,h5⟩:=h;exact⟨tm,F',H'',n,h0,h1,h2,h3,h4,e.trans h5⟩
theorem iV{c:Code}{F':List AV}{H':Hp}(hl:dq F H F' H')(h:dH P c Q F' H'):dH P c Q F H:=fun w tm h1 h2=>by obtain⟨w',e0,a,b,e⟩:=hl w tm h1 h2;rw[<-e0];exact wp_mono (h w' tm a b) fun _ _ _ hp=>hp.nj e
def uj(next:List AV->Hp->Prop)(Q:Exit->List AV->Hp->Prop):Exit->List AV->Hp->Prop
 |.normal,F,H=>next F H
 |e,F,H=>Q e F H
def sq(id:Nat)(Q:Exit->List AV->Hp->Prop):Exit->List AV->Hp->Prop
 |.exit id',F,H=>if id'=id then Q .normal F H else Q (.exit id') F H
 |e,F,H=>Q e F H
variable{x y:Code}
theorem Md(h:dH P x (uj (dH P y Q) Q) F H):dH P (.seq x y) Q F H:=fun w tm h1 h2=>by
 refine wp_seq (wp_mono (h w tm h1 h2) ?_);rintro e a W ⟨tm',F',H',w',rfl,rfl,hq,h3,h4,h5⟩;cases e with
 |normal=>exact wp_mono (hq w' tm' h3 h4) fun _ _ _ hp=>hp.nj h5
 |exit id=>exact⟨tm',F',H',w',rfl,rfl,hq,h3,h4,h5⟩
 |goto l=>exact⟨tm',F',H',w',rfl,rfl,hq,h3,h4,h5⟩
 |ret=>exact⟨tm',F',H',w',rfl,rfl,hq,h3,h4,h5⟩
 |panic ch=>exact⟨tm',F',H',w',rfl,rfl,hq,h3,h4,h5⟩
 |outgrown=>exact⟨tm',F',H',w',rfl,rfl,hq,h3,h4,h5⟩
theorem aB(h:∀K:List AV->Hp->Prop,(∀F H,dH P y Q F H->K F H)->dH P x (uj K Q) F H):dH P (.seq x y) Q F H:=Md (h _ fun _ _ h=>h)
theorem BY{c:Code}{e:Exit}(hc:∀(R:Exit->Act->World->Prop) a w,R e a w->Code.wp P c R a w)(h:Q e F H):dH P c Q F H:=fun w tm h1 h2=>hc _ _ _ ⟨tm,F,H,w,rfl,rfl,h,h1,h2,fB.refl w H⟩
theorem LC(h:Q .normal F H):dH P .skip Q F H:=BY (fun _ _ _ h=>wp_skip h) h
theorem Ph{id:Nat}(h:Q (.exit id) F H):dH P (.exit id) Q F H:=BY (fun _ _ _ h=>wp_exit h) h
theorem Od(h:Q .ret F H):dH P .ret Q F H:=BY (fun _ _ _ h=>wp_ret h) h
theorem Re{c:Operand}{b:Bool}(hc:cc F c=.raw (.bool b))(ht:b=true->dH P x Q F H)(hf:b=false->dH P y Q F H):dH P (.cond c x y) Q F H:=fun w tm h1 h2=>by have he:=h2.eval [] c;rw[hc]at he;generalize hv:(Act.mk tm []).eval c=v at he;cases he;exact wp_cond_split hv (fun h=>ht h w tm h1 h2) (fun h=>hf h w tm h1 h2)
theorem Po{id:Nat}{c:Code}(h:dH P c (sq id Q) F H):dH P (.block id c) Q F H:=fun w tm h1 h2=>by
 refine wp_block (wp_mono (h w tm h1 h2) ?_);rintro e a W ⟨tm',F',H',w',rfl,rfl,hq,h3,h4,h5⟩;cases e with
 |normal=>exact⟨tm',F',H',w',rfl,rfl,hq,h3,h4,h5⟩
 |exit id'=>
  simp only[sq]at hq;simp only[Exit.inBlock];split<;>rename_i hid
  ·rw[if_pos hid]at hq;exact⟨tm',F',H',w',rfl,rfl,hq,h3,h4,h5⟩
  ·rw[if_neg hid]at hq;exact⟨tm',F',H',w',rfl,rfl,hq,h3,h4,h5⟩
 |goto l=>exact⟨tm',F',H',w',rfl,rfl,hq,h3,h4,h5⟩
 |ret=>exact⟨tm',F',H',w',rfl,rfl,hq,h3,h4,h5⟩
 |panic ch=>exact⟨tm',F',H',w',rfl,rfl,hq,h3,h4,h5⟩
 |outgrown=>exact⟨tm',F',H',w',rfl,rfl,hq,h3,h4,h5⟩
theorem Kx{S:Type}{c:Code}(I:S->List AV->Hp->Prop)(μ:S->Nat)(s₀:S){F₀:List AV}{H₀:Hp}(hle:dq F H F₀ H₀)(h₀:I s₀ F₀ H₀)
  (round:∀s F H,I s F H->dH P c (uj (fun F' H'=>∃s' F'' H'',μ s'<μ s/\dq F' H' F'' H''/\I s' F'' H'') Q) F H):dH P (.loop c) Q F H:=fun w tm h1 h2=>by
 obtain⟨w0,ew,h1,h2,e0⟩:=hle w tm h1 h2;rw[<-ew];refine wp_loop_ghost (fun n a W=>∃s F' H' tm' w',μ s=n/\I s F' H'/\W=NW.toWorld w'/\a=⟨tm',[]⟩/\aO w' H'/\bc w' F' tm'/\fB w H w' H') (μ s₀) ⟨s₀,F₀,H₀,tm,w0,rfl,h₀,rfl,rfl,h1,h2,e0⟩ ?_;rintro n a W ⟨s,F',H',tm',w',rfl,hI,rfl,rfl,h3,h4,h5⟩;refine wp_mono (round s F' H' hI w' tm' h3 h4) ?_;rintro e a W ⟨tm'',F'',H'',w'',rfl,rfl,hq,h6,h7,h8⟩;cases e with
 |normal=> obtain⟨s',F3,H3,hlt,hl,hI'⟩:=hq;obtain⟨w3,ew3,g1,g2,g3⟩:=hl w'' tm'' h6 h7;exact⟨μ s',hlt,s',F3,H3,tm'',w3,rfl,hI',ew3.symm,rfl,g1,g2,(h5.trans h8).trans g3⟩
 |exit id=>exact⟨tm'',F'',H'',w'',rfl,rfl,hq,h6,h7,h5.trans h8⟩
 |goto l=>exact⟨tm'',F'',H'',w'',rfl,rfl,hq,h6,h7,h5.trans h8⟩
 |ret=>exact⟨tm'',F'',H'',w'',rfl,rfl,hq,h6,h7,h5.trans h8⟩
 |panic ch=>exact⟨tm'',F'',H'',w'',rfl,rfl,hq,h6,h7,h5.trans h8⟩
 |outgrown=>exact⟨tm'',F'',H'',w'',rfl,rfl,hq,h6,h7,h5.trans h8⟩
end
-- regions
def rh(P:Program)(ops:Array Oper)(Q:Exit->Act->World->Prop)(o:Oper)(next:Act->World->Prop)(a:Act)(w:World):Prop:=
 if Region.wanted o (yielded ops a.tmps)then o.wp P a w next Q\/(o.asks P a w/\LetsOut Q)else next (a.put o.dst undef) w
def lZ(P:Program)(ops:Array Oper)(o:Oper)(F:List AV)(H:Hp)(K:List AV->Hp->Prop):Prop:=
 ∀(w:NW) tm (Q:Exit->Act->World->Prop) (next:Act->World->Prop),aO w H->bc w F tm->
  (∀tm' (w':NW) F' H',K F' H'->aO w' H'->bc w' F' tm'->Ext w H w' H'->next ⟨tm',[]⟩ w'.toWorld)->rh P ops Q o next ⟨tm,[]⟩ w.toWorld
def uD(P:Program)(ops:Array Oper)(K:List AV->Hp->Prop)(l:List Oper)(F:List AV)(H:Hp):Prop:=
 ∀(w:NW) tm (Q:Exit->Act->World->Prop),aO w H->bc w F tm->
  (∀tm' (w':NW) F' H',K F' H'->aO w' H'->bc w' F' tm'->Ext w H w' H'->Q .normal ⟨tm',[]⟩ w'.toWorld)->wpList P ops Q l ⟨tm,[]⟩ w.toWorld
section
variable {P:Program}{ops:Array Oper}{F:List AV}{H:Hp}{K:List AV->Hp->Prop}
variable{o:Oper}
theorem lZ.mono{K':List AV->Hp->Prop}(h:lZ P ops o F H K)(hk:∀F H,K F H->K' F H):lZ P ops o F H K':=
 fun w tm Q next h1 h2 hn=>h w tm Q next h1 h2 fun tm' w' F' H' k=>hn tm' w' F' H' (hk _ _ k)
theorem EW(h:K F H):uD P ops K [] F H:=fun w tm Q h1 h2 hq=>hq tm w F H h h1 h2 (Ext.refl w H)
theorem Fk{rest:List Oper}(h:lZ P ops o F H (uD P ops K rest)):uD P ops K (o::rest) F H:=fun w tm Q h1 h2 hq=>by
 have:=h w tm Q (wpList P ops Q rest) h1 h2 fun tm' w' F' H' k g1 g2 g3=>k w' tm' Q g1 g2 fun tm'' w'' F'' H'' k' g4 g5 g6=>hq tm'' w'' F'' H'' k' g4 g5 (g3.trans g6)
 simpa only[rh,wpList]using this
theorem Dx{id:Nat}{Q:Exit->List AV->Hp->Prop}(h:uD P ops (Q .normal) ops.toList F H):dH P (.region id ops false) Q F H:=fun w tm h1 h2=> wp_region_list (h w tm (gh Q w H) h1 h2 fun tm' w' F' H' k g1 g2 g3=>⟨tm',F',H',w',rfl,rfl,k,g1,g2,g3.pB⟩)
def zK(P:Program)(o:Oper)(F:List AV)(H:Hp)(K:AV->Hp->Prop):Prop:=
 ∀(w:NW) tm,aO w H->bc w F tm->∃(w':NW) (H':Hp) (r:AV),K r H'/\aO w' H'/\Ext w H w' H'/\
  ((∃v,(execOp (Act.mk tm []).eval o).run P w.toWorld=.ok (.value v) w'.toWorld/\aw w' r v)\/((execOp (Act.mk tm []).eval o).run P w.toWorld=.ok .skip w'.toWorld/\r=.any))
theorem KO(h:zK P o F H (fun r H'=>K (cA F o.dst r) H')){w:NW}{tm:Array Value}{Q:Exit->Act->World->Prop}{next:Act->World->Prop}(h1:aO w H)(h2:bc w F tm)
  (hn:∀tm' (w':NW) F' H',K F' H'->aO w' H'->bc w' F' tm'->Ext w H w' H'->next ⟨tm',[]⟩ w'.toWorld):o.wp P ⟨tm,[]⟩ w.toWorld next Q:=by
 obtain⟨w',H',r,hk,g1,g2,g3⟩:=h w tm h1 h2;rcases g3 with⟨v,hr,hv⟩|⟨hr,rfl⟩
 ·simp only[Oper.wp,hr,Oper.upon];rw[Act.put_eq];exact hn _ w' _ H' hk g1 ((h2.ext g2).put o.dst hv []) g2
 ·simp only[Oper.wp,hr,Oper.upon];rw[Act.put_eq];exact hn _ w' _ H' hk g1 ((h2.ext g2).put o.dst (.any _) []) g2
theorem Oz(hg:o.guard=none)(h:zK P o F H (fun r H'=>K (cA F o.dst r) H')):lZ P ops o F H K:=fun w tm Q next h1 h2 hn=>by unfold rh;rw[if_pos (by simp[Region.wanted,hg])];exact .inl (KO h h1 h2 hn)
end
-- calls
def ids(l:List (Nat×Row)):List Nat:=l.map (·.1)
def entry(l:List (Nat×Row)):Hp:=⟨ids l,l⟩
def aj(P:Program)(f:FuncId)(args:List AV)(l:List (Nat×Row))(R:AV->List (Nat×Row)->Prop):Prop:=
 ∀(w:NW) vs,aO w (entry l)->bc w args vs->Calls P f vs w.toWorld fun e W=>∃v r H' w',W=NW.toWorld w'/\e=.returned v/\R r (Hp.l H')/\aO w' H'/\aw w' r v/\fB w (entry l) w' H'
theorem aj.mono{P:Program}{f:FuncId}{args:List AV}{l:List (Nat×Row)}{R R':AV->List (Nat×Row)->Prop}(h:aj P f args l R)(hr:∀r l',R r l'->R' r l'):aj P f args l R':=
 fun w vs h1 h2=>(h w vs h1 h2).mono fun _ _ ⟨v,r,H',w',e0,e,k,g⟩=>⟨v,r,H',w',e0,e,hr _ _ k,g⟩
def hZ(r:AV)(H:Hp)(r':AV)(H':Hp):Prop:=∀(w:NW) v,aO w H->aw w r v->∃w':NW,w'.toWorld=w.toWorld/\aO w' H'/\aw w' r' v/\fB w H w' H'
theorem hZ.refl(r:AV)(H:Hp):hZ r H r H:=fun w _ h1 h2=>⟨w,rfl,h1,h2,fB.refl w H⟩
theorem hZ.trans{a b c:AV}{H H' H'':Hp}(h:hZ a H b H')(k:hZ b H' c H''):hZ a H c H'':=fun w v h1 h2=>by obtain⟨w',e,x,y,z⟩:=h w v h1 h2;obtain⟨w'',e',x',y',z'⟩:=k w' v x y;exact⟨w'',e'.trans e,x',y',z.trans z'⟩
theorem hZ.of_eq{r r':AV}(H:Hp)(h:r=r'):hZ r H r' H:=h ▸ hZ.refl r H
-- a call, where more is owned than the function is handed
def gZ(l:List (Nat×Row)):List (Nat×Row)->List (Nat×Row)
 |[]=>l
 |(i,r)::m=>gZ (br l i r) m
def NW.only(w:NW)(L:List Nat):NW:={ w with nm:=fun i m=>if L.contains i=true then w.nm i m else none }
theorem wu:∀{l:List (Nat×Row)} {i:Nat} {r:Row},av l i=some r->(ids l).contains i=true
 |[],_,_,h=>by cases h
 |(j,s)::l,i,r,h=>by
  simp only[av]at h;simp only[ids,List.map_cons,List.contains_cons,Bool.or_eq_true,beq_iff_eq];split at h
  ·rename_i e;exact .inl e
  ·exact .inr (wu (l:=l) h)
theorem zP:∀{l:List (Nat×Row)} {i:Nat},(ids l).contains i=true->∃r,av l i=some r
 |[],_,h=>by simp[ids]at h
 |(j,s)::l,i,h=>by
  simp only[ids,List.map_cons,List.contains_cons,Bool.or_eq_true,beq_iff_eq]at h;simp only[av];split
  ·exact⟨s,rfl⟩
  ·rename_i e;exact zP (h.resolve_left e)
theorem xA:∀(m l:List (Nat×Row)) (i:Nat),(∀j r,av m j=some r->True)->(ids m).Nodup->av (gZ l m) i=(av m i).or (av l i)
 |[],l,i,_,_=>by simp[gZ,av]
 |(j,s)::m,l,i,h,hn=>by
  simp only[ids,List.map_cons,List.nodup_cons]at hn;simp only[gZ];rw[xA m _ i (fun _ _ _=>trivial) hn.2,bM];simp only[av];by_cases e:i=j
  ·subst e;have:av m i=none:=by
    cases e':av m i with
    |none=>rfl
    |some r=>exact(hn.1 (by have:=wu e';simpa[ids]using this)).elim
   simp[this]
  ·simp[e]
structure Fits(H:Hp)(l:List (Nat×Row)):Prop where
 have_:∀i r,av l i=some r->H.get i=some r
theorem zZ{P:Program}{f:FuncId}{args:List AV}{l:List (Nat×Row)}{R:AV->List (Nat×Row)->Prop}{K:AV->Hp->Prop}(hc:aj P f args l R)(hfit:∀i r,av l i=some r->H.get i=some r)(hargs:aW (fun i=>(ids l).contains i) args=true)
  (hrows:∀i r,av l i=some r->aW (fun i=>(ids l).contains i) r.cells=true)
  (hk:∀r l',R r l'->(∀i s,av l' i=some s->(ids l).contains i=true\/H.get i=none)/\(ids l').Nodup/\K r ⟨H.B,gZ H.l l'⟩) {w:NW} {vs:Array Value} (h1:aO w H) (h2:bc w args vs) :
  Calls P f vs w.toWorld fun e W=>∃v r H' w',W=NW.toWorld w'/\e=.returned v/\K r H'/\aO w' H'/\aw w' r v/\Ext w H w' H':=by
 have nmO:∀i m,(w.only (ids l)).nm i m=if(ids l).contains i=true then w.nm i m else none:=fun _ _=>rfl
 have kO:Keep (fun i=>(ids l).contains i) w (w.only (ids l)):=⟨Nat.le_refl _,fun _ _ h=>⟨rfl,h⟩,fun i m z hq h=>by rw[nmO,if_pos hq];exact h⟩;have hw1:aO (w.only (ids l)) (entry l):=by
  refine{ rows:=fun i r hi=>?_,dO:=fun i m z hz=>?_,inj:=fun i m j n b t s t' s' g1 g2=>?_,own:=fun i m b t s h=>?_,fin:=h1.fin,cn:=h1.cn.aY kO }
  ·obtain⟨g1,z,g2,g3⟩:=h1.rows i r (hfit i r hi);refine⟨g1,z,by rw[nmO,if_pos (wu (l:=l) hi)];exact g2,?_⟩;cases z with
   |nil=>exact g3
   |«at» b t s=> obtain⟨e1,cur,e2,e3,e5⟩:=g3;exact⟨e1,cur,e2,e3,fun k a v ha hv=>(e5 k a v ha hv).aY kO (mz (hrows i r hi) ha)⟩
  ·rw[nmO]at hz;split at hz
   ·rename_i hi;obtain⟨r,hr⟩:=zP hi;obtain⟨r',e1,e2⟩:=h1.dO i m z hz;rw[hfit i r hr]at e1;cases e1;exact⟨r,hr,e2⟩
   ·cases hz
  ·rw[nmO]at g1 g2;split at g1<;>split at g2
   ·exact h1.inj _ _ _ _ _ _ _ _ _ g1 g2
   ·cases g2
   ·cases g1
   ·cases g1
  ·rw[nmO]at h;split at h
   ·exact h1.own _ _ _ _ _ h
   ·cases h
 refine(hc (w.only (ids l)) vs hw1 (h2.aY kO hargs)).mono ?_;rintro e W ⟨v,r,H',w',rfl,rfl,hR,g1,g2,g3⟩;obtain⟨k1,k2,k3⟩:=hk r H'.l hR;have hBl:∀i,(ids l).contains i=true->∀m z,w.nm i m=some z->w'.nm i m=some z:=fun i hi m z hz=>g3.names i m z hi (by rw[nmO,if_pos hi];exact hz)
 -- who is the callee's, then
 let cq:Nat->Prop:=fun i=>(ids l).contains i=true\/∃s,av H'.l i=some s
 have hcq:∀i,¬cq i->(ids l).contains i=false/\av H'.l i=none:=fun i h=>⟨by cases e:(ids l).contains i with|true=>exact(h (.inl e)).elim|false=>rfl,by cases e:av H'.l i with|none=>rfl|some s=>exact(h (.inr ⟨s,e⟩)).elim⟩
 classical
 let w2:NW:={ w' with nm:=fun i m=>if cq i then w'.nm i m else w.nm i m }
 have nm2:∀i m,w2.nm i m=if cq i then w'.nm i m else w.nm i m:=fun _ _=>rfl
 -- the caller's other things
 have hother:∀i m b t s,¬cq i->w.nm i m=some (.at b t s)->w'.heap[b]?=w.heap[b]?/\w'.O b/\∀i m t s,w'.nm i m≠some (.at b t s):=fun i m b t s hi hn=>by
  have hno:∀i' m' t' s',(w.only (ids l)).nm i' m'≠some (.at b t' s'):=fun i' m' t' s' h=>by
   rw[nmO]at h;split at h
   ·rename_i hc';have:=h1.inj _ _ _ _ _ _ _ _ _ hn h;subst this;rw[(hcq _ hi).1]at hc';cases hc'
   ·cases h
  exact g3.rest b (h1.lt hn) (h1.own _ _ _ _ _ hn) hno
 have hnotin:∀i,¬cq i->∀m,w'.nm i m=none:=fun i hi m=>g1.none (by exact(hcq i hi).2) m
 have k2':Keep su w w2:=⟨g3.size,g3.free,fun i m z _ hz=>by
  rw[nm2];split
  ·rename_i hi;rcases hi with hi|⟨s,hs⟩
   ·exact hBl i hi m z hz
   ·rcases k1 i s hs with hi|hi
    ·exact hBl i hi m z hz
    ·rw[h1.none hi]at hz;cases hz
  ·exact hz⟩
 have k3':Keep su w' w2:=⟨Nat.le_refl _,fun _ _ h=>⟨rfl,h⟩,fun i m z _ hz=>by
  rw[nm2];split
  ·exact hz
  ·rename_i hi;rw[hnotin i hi]at hz;cases hz⟩
 have hext:Ext w H w2 ⟨H.B,gZ H.l H'.l⟩:={ k2' with
  os:=g3.os,tape:=g3.tape,output:=g3.output
  rest:=fun b hb hO hno=>by
   obtain⟨e1,e2,e3⟩:=g3.rest b hb hO fun i m t s h=>by
    rw[nmO]at h;split at h
    ·exact hno _ _ _ _ h
    ·cases h
   refine⟨e1,e2,fun i m t s h=>?_⟩;rw[nm2]at h;split at h
   ·exact e3 _ _ _ _ h
   ·exact hno _ _ _ _ h
  base:=rfl }
 have hget:∀i,(Hp.mk H.B (gZ H.l H'.l)).get i=(av H'.l i).or (H.get i):=fun i=>xA _ _ _ (fun _ _ _=>trivial) k2
 refine⟨v,r,_,w2,rfl,rfl,k3,{ rows:=fun i s hi=>?_,dO:=fun i m z hz=>?_,inj:=fun i m j n b t s t' s' e1 e2=>?_,own:=fun i m b t s h=>?_,fin:=g1.fin,cn:=h1.cn.aY hext.toKeep },g2.aY k3' (o4 r),hext⟩
 ·rw[hget]at hi;by_cases hci:cq i
  ·cases e:av H'.l i with
   |some s'=>
    rw[e]at hi;cases hi;obtain⟨e1,z,e2,e3⟩:=g1.rows i s e;refine⟨e1,z,by rw[nm2,if_pos hci];exact e2,?_⟩;cases z with
    |nil=>exact e3
    |«at» b t st=> obtain⟨f1,cur,f2,f3,f5⟩:=e3;exact⟨f1,cur,f2,f3,fun k a v ha hv=>(f5 k a v ha hv).aY k3' (o4 a)⟩
   |none=>
    exfalso;rcases hci with hc'|⟨s',hs'⟩
    ·obtain⟨r0,hr0⟩:=zP hc';obtain⟨_,z,e2,_⟩:=h1.rows i r0 (hfit i r0 hr0);obtain⟨r',e3,_⟩:=g1.dO i r0.fP z (hBl i hc' _ _ e2);rw[show H'.get i=av H'.l i from rfl,e]at e3;cases e3
    ·rw[e]at hs';cases hs'
  ·rw[(hcq i hci).2,Option.none_or]at hi;obtain⟨e1,z,e2,e3⟩:=h1.rows i s hi;refine⟨e1,z,by rw[nm2,if_neg hci];exact e2,e3.ext hext fun b t st e=>?_⟩;subst e;exact(hother i _ b t st hci e2).1
 ·rw[nm2]at hz;rw[hget];split at hz
  ·obtain⟨s,e1,e2⟩:=g1.dO i m z hz;exact⟨s,by rw[show av H'.l i=some s from e1];rfl,e2⟩
  ·rename_i hci;rw[(hcq i hci).2,Option.none_or];exact h1.dO i m z hz
 ·rw[nm2]at e1 e2;split at e1<;>split at e2
  ·exact g1.inj _ _ _ _ _ _ _ _ _ e1 e2
  ·rename_i _ hj;exact((hother _ _ _ _ _ hj e2).2.2 _ _ _ _ e1).elim
  ·rename_i hi _;exact((hother _ _ _ _ _ hi e1).2.2 _ _ _ _ e2).elim
  ·exact h1.inj _ _ _ _ _ _ _ _ _ e1 e2
 ·rw[nm2]at h;split at h
  ·exact g1.own _ _ _ _ _ h
  ·rename_i hi;exact(hother _ _ _ _ _ hi h).2.1
end Go.Gd

/- What is visible, and what is seen, as functions. The plain law of the document's checker: of which function it notes a node. The plain law of the document's checker: what is visible at each statement, and of which types. The plain law of the document's checker: what is visible at each statement, by statements and functions. What is visible where a call is. What is visible has values of its types, along a run. What is visible has values of its types: steps. What is visible: the document's. The plain law of the document's checker: which functions are noted. What is visible: the document's, of a node. What is visible is not too much. No conditions. -/
import Derived.Test.YtfkgcobaheegbaaGreatDoorSoS
import Derived.Test.YtfkgcobaheegbaaGreatDoorSlF
import Derived.Test.YtfkgcobaheegbaaGreatDoorSoH
import Derived.Test.YtfkgcobaheegbaaGreatDoorSoC
import Derived.Test.YtfkgcobaheegbaaGreatDoorWd
set_option linter.all false
namespace Go.Gd
open Go
def jmE (p:GProg) (x:Int):GVar:=⟨(jag p x).name,nth p.types (nth (jag p x).l 0).toNat,nth p.slots x.toNat⟩
def jgQ (w:Int→List GVar→Option (List GVar)) (vars:List GVar):List Int→Option (List GVar)
 | []=>none
 | b::l=>(w b vars).or (jgQ w vars l)
def jk3 (p:GProg) (x:Int) (vars:List GVar):List GVar:=if (jag p x).kind=10 then vars++[jmE p x] else vars
def jd5 (w:Int→List GVar→Option (List GVar)) (p:GProg) (node:Int):List Int→List GVar→Option (List GVar)
 | [],_=>none
 | x::l,vars=>
  if x=node then some vars
  else (if (jag p x).kind=15∨(jag p x).kind=16 then jgQ w (jk3 p x vars) ((jag p x).l.drop 1) else none).or (jd5 w p node l (jk3 p x vars))
def jbp (p:GProg) (node:Int):Nat→Int→List GVar→Option (List GVar)
 | 0,_,_=>none
 | n+1,b,vars=>jd5 (jbp p node n) p node (jag p b).l vars
def jft:List GParam→Int→List GVar
 | [],_=>[]
 | x::l,i=>⟨x.name,x.ty,i⟩::jft l (i+1)
def jlz (p:GProg) (node:Int):List GVar:=
 (jbp p node p.tree.nodes.length (nth p.tree.fns (nth p.fn node.toNat).toNat).body (jft (nth p.tree.fns (nth p.fn node.toNat).toNat).params 0)).getD []
def jv1 (v:GValue):ByteArray:=if v.ty=3 then (⟨#[34]⟩:ByteArray)++v.s++(⟨#[34]⟩:ByteArray) else jfQ v
def j2l (n:Int):List Int→Int→Int
 | [],_=>-1
 | v::l,i=>if v=n then i else j2l n l (i+1)
def j46 (l:List Int) (n:Int):List Int:=if j2l n l 0 < 0 then l++[n] else l
def jt0:List Int→Bool→ByteArray→ByteArray
 | [],_,t=>t
 | x::l,b,t=>jt0 l true ((if b=true then t++(⟨#[44]⟩:ByteArray) else t)++jiS x)
def j2f (seen:List Int) (n:Int) (l:List Int):ByteArray:=jt0 l false ((⟨#[35]⟩:ByteArray)++jiS (j2l n seen 0+1)++(⟨#[91]⟩:ByteArray))++(⟨#[93]⟩:ByteArray)
def jzy (heap:List (List Int)) (seen:List Int) (v:GValue):ByteArray×List Int:=
 if v.ty=4 then
  (if 1≤v.n∧v.n≤heap.length then (j2f (j46 seen v.n) v.n (nth heap (v.n - 1).toNat),j46 seen v.n) else ((⟨#[35,48,91,93]⟩:ByteArray),seen))
 else (jv1 v,seen)
def jwD (heap:List (List Int)) (slots:List GValue) (a:List GShown×List Int) (x:GVar):List GShown×List Int:=
 (a.1++[⟨x.name,(jzy heap a.2 (jfs slots x.slot x.ty)).1⟩],(jzy heap a.2 (jfs slots x.slot x.ty)).2)
def jzF (heap:List (List Int)) (slots:List GValue) (l:List GVar) (seen:List Int):List GShown×List Int:=l.foldl (jwD heap slots) ([],seen)
def jsE (p:GProg) (heap:List (List Int)) (a:List GSeen×List Int) (c:GSpot):List GSeen×List Int:=
 (a.1++[⟨(nth p.tree.fns c.fn.toNat).name,(jag p c.node).line,(jzF heap c.slots (jlz p c.node) a.2).1⟩],(jzF heap c.slots (jlz p c.node) a.2).2)
def jyf (p:GProg) (heap:List (List Int)) (l:List GSpot):List GSeen×List Int:=l.foldl (jsE p heap) ([],[])
def ofV (p:GProg) (s:GShot):GView:=⟨(jyf p s.heap s.calls).1,s.out_,s.in_,s.status,s.trap⟩
def j2q (p:GProg) (f:GFrame):GSpot:=⟨f.fn,nth (jag p f.pl.block).l f.pl.at_.toNat,f.slots⟩
def j7p (p:GProg) (s:GState):GShot:=⟨s.frames.map (j2q p),s.heap,s.in_,s.out_,s.status,s.trap,s.time⟩
def jz1 (t:ByteArray) (x:GShown):ByteArray:=t++(⟨#[32]⟩:ByteArray)++x.name++(⟨#[61]⟩:ByteArray)++x.text
def j2p (c:GSeen):ByteArray:=c.vars.foldl jz1 ((⟨#[97,116,32]⟩:ByteArray)++c.name++(⟨#[32]⟩:ByteArray)++jiS c.line)
def jzu (v:GView):ByteArray:=
 if v.status=0 then (⟨#[105,110,32]⟩:ByteArray)++jiS v.in_++(⟨#[32,114,117,110,115]⟩:ByteArray)
 else if v.status=1 then (⟨#[105,110,32]⟩:ByteArray)++jiS v.in_++(⟨#[32,119,97,105,116,115]⟩:ByteArray)
 else if v.status=2 then (⟨#[105,110,32]⟩:ByteArray)++jiS v.in_++(⟨#[32,101,110,100,115]⟩:ByteArray)
 else (⟨#[105,110,32]⟩:ByteArray)++jiS v.in_++(⟨#[32,102,97,108,108,115,32]⟩:ByteArray)++jiS v.trap
def j7f (s:ByteArray):ByteArray:=(⟨#[111,117,116,32]⟩:ByteArray)++s
def j4V (v:GView):List ByteArray:=v.calls.map j2p++v.out_.map j7f++[jzu v]
end Go.Gd
namespace Go.Proofs.YtfkgcobaheegbaaGreatDoor
open Go Go.Gd
structure Fx (I:Nat→Prop) (c c':Ck):Prop where
 tree:c'.tree=c.tree
 fn:c'.fn=c.fn
 at_:∀ k,nth c'.fns k=nth c.fns k∨(I k∧nth c'.fns k=c.fn)
theorem Fx.refl (I:Nat→Prop) (c:Ck):Fx I c c:=⟨rfl,rfl,fun _=>.inl rfl⟩
theorem Fx.trans {I:Nat→Prop} {a b c:Ck} (h:Fx I a b) (k:Fx I b c):Fx I a c:=⟨k.tree.trans h.tree,k.fn.trans h.fn,fun i=>by
 rcases k.at_ i with e | ⟨e1,e2⟩
 ·rw [e];exact h.at_ i
 ·exact .inr ⟨e1,e2.trans h.fn⟩⟩
theorem jfE {I:Nat→Prop} {c c':Ck} (h0:c'.tree=c.tree) (h1:c'.fn=c.fn) (h2:c'.fns=c.fns):Fx I c c':=⟨h0,h1,fun k=>.inl (by rw [h2])⟩
theorem jdw (I:Nat→Prop) (c:Ck) (e a:Int):Fx I c (c.fails e a):=by unfold Ck.fails;split<;>exact jfE rfl rfl rfl
theorem jdG (I:Nat→Prop) (c:Ck) (b:Bool) (a:Int):Fx I c (c.must b a):=by unfold Ck.must;split;exact .refl _ _;exact jdw _ _ _ _
theorem jeW (I:Nat→Prop) (c:Ck) (a:Int):Fx I c (c.named a).1:=by unfold Ck.named;split;exact jdw _ _ _ _;exact jfE rfl rfl rfl
theorem jkW {I:Nat→Prop} (c:Ck) {a:Int} (h:I a.toNat):Fx I c (c.noteF a):=⟨rfl,rfl,fun k=>by
 show nth (c.fns.set a.toNat c.fn) k=_∨_
 rw [jc3]
 split
 ·rename_i e;exact .inr ⟨e.1 ▸ h,by show nth (c.fns.set a.toNat c.fn) k=_;rw [jc3,if_pos e]⟩
 ·exact .inl rfl⟩
theorem jvx {I:Nat→Prop} (c:Ck) {a:Int} (t:Int) (h:I a.toNat):Fx I c (c.note a t):=⟨rfl,rfl,(jkW c h).at_⟩
theorem jsW {I:Nat→Prop} {c x y:Ck} {q:Prop} [Decidable q] (h:Fx I c x) (k:Fx I c y):Fx I c (if q then x else y):=by split;exact h;exact k
def Cl (t:GTree) (I:Nat→Prop):Prop:=∀ k,I k→k < t.nodes.length∧∀ a∈(nth t.nodes k).l,I a.toNat
def ExX (t:GTree) (I:Nat→Prop) (ex:Ck→Int→Ck×Int):Prop:=∀ c a,c.tree=t→I a.toNat→isR (jaj t.nodes a)→Fx I c (ex c a).1
theorem jqI {t:GTree} {I:Nat→Prop} {ex:Ck→Int→Ck×Int} (hx:ExX t I ex):∀ (L:List Int) (c:Ck) (ts:List Int),c.tree=t→(∀ a∈L,I a.toNat∧isR (jaj t.nodes a))→Fx I c (jbV ex c L ts).1
 | [],c,ts,hc,hL=>by unfold jbV;exact .refl _ c
 | a::L,c,ts,hc,hL=>by
  unfold jbV
  split
  ·have h1:=hx c a hc (hL a (by simp)).1 (hL a (by simp)).2
   exact h1.trans (jqI hx L _ _ (h1.tree.trans hc) fun b hb=>hL b (by simp [hb]))
  ·exact .refl _ c
theorem joj (I:Nat→Prop) (a:Int):∀ (ts:List Int) (ps:List GParam) (c:Ck),Fx I c (jbx a c ts ps)
 | [],ps,c=>by rw [jcw];exact .refl _ c
 | _::_,[],c=>by rw [jcx];exact .refl _ c
 | x::ts,p::ps,c=>by
  unfold jbx
  split
  ·exact (jdG _ _ _ _).trans (joj I a ts ps _)
  ·exact .refl _ c
theorem jm9 {t:GTree} (ht:TreeOk t) {I:Nat→Prop} (hI:Cl t I):∀ n,ExX t I (jac n)
 | 0=>fun c a hc ha hr=>by unfold jac;exact .refl _ c
 | n+1=>fun c a hc ha hr=>by
  have hx:=jm9 ht hI n
  unfold jac
  split
  ·exact .refl _ c
  refine Fx.trans (b:=(jam (jac n) c a).1) ?_ (jvx _ _ ha)
  obtain ⟨hal,hak⟩:=hI _ ha
  have sh:=(ht.shape a.toNat hal).1
  have hnode:c.node a=nth t.nodes a.toNat:=by unfold Ck.node;rw [hc]
  have kd:∀ i,c.kid a i=nth (nth t.nodes a.toNat).l i:=fun i=>by unfold Ck.kid;rw [hnode]
  have hr':isR (nth t.nodes a.toNat).kind:=hr
  unfold isR isE at hr'
  have one:∀ x,(nth t.nodes a.toNat).l=[x]→isE (jaj t.nodes x)→∀ c',c'.tree=t→Fx I c' (jac n c' (c.kid a 0)).1:=fun x hl hxe c' hc'=>by
   have hk0:c.kid a 0=x:=by rw [kd,hl];rfl
   rw [hk0]
   exact hx c' x hc' (hak x (by rw [hl];simp)) (.inl hxe)
  unfold jam
  simp only
  rw [hnode]
  split
  ·exact .refl _ c
  split
  ·exact .refl _ c
  split
  ·exact .refl _ c
  split
  ·exact jeW _ _ _
  split
  ·rename_i k
   have hcall:=sh.call k
   unfold jb3
   split
   ·exact jdw _ _ _ _
   ·simp only
    refine ((jqI hx _ c _ hc fun b hb=>?_).trans (jsW (jdw _ _ _ _) (.refl _ _))).trans (joj _ _ _ _ _)
    rw [hnode] at hb
    exact ⟨hak b hb,.inl (hcall b hb)⟩
  split
  ·obtain ⟨x,hl,hxe⟩:=sh.one (by omega)
   exact ((jeW I c a).trans (one x hl hxe _ ((jeW I c a).tree.trans hc))).trans (jdG _ _ _ _)
  split
  ·obtain ⟨x,y,hl,hxe,hye⟩:=sh.two (by omega)
   have hk0:c.kid a 0=x:=by rw [kd,hl];rfl
   have hk1:c.kid a 1=y:=by rw [kd,hl];rfl
   rw [hk0,hk1]
   have h1:=hx c x hc (hak x (by rw [hl];simp)) (.inl hxe)
   exact (h1.trans (hx _ y (h1.tree.trans hc) (hak y (by rw [hl];simp)) (.inl hye))).trans (jdG _ _ _ _)
  ·obtain ⟨x,hl,hxe⟩:=sh.one (by omega)
   (repeat' split)<;>exact (one x hl hxe c hc).trans (jdG _ _ _ _)
theorem jf1 {t:GTree} {I:Nat→Prop} {st:Ck→Int→Ck} {C:Int→Prop} (hs:∀ c a,c.tree=t→I a.toNat→C (jaj t.nodes a)→Fx I c (st c a)):∀ (L:List Int) (c:Ck),c.tree=t→(∀ a∈L,I a.toNat∧C (jaj t.nodes a))→Fx I c (jaz st c L)
 | [],c,hc,hL=>by unfold jaz;exact .refl _ c
 | a::L,c,hc,hL=>by
  unfold jaz
  split
  ·have h1:=hs c a hc (hL a (by simp)).1 (hL a (by simp)).2
   exact h1.trans (jf1 hs L _ (h1.tree.trans hc) fun b hb=>hL b (by simp [hb]))
  ·exact .refl _ c
theorem jkV {t:GTree} (ht:TreeOk t) {I:Nat→Prop} (hI:Cl t I) {st:Ck→Int→Ck} (hs:∀ c a,c.tree=t→I a.toNat→isS (jaj t.nodes a)→Fx I c (st c a)) (c:Ck) (a:Int) (hc:c.tree=t) (ha:I a.toNat) (hk:jaj t.nodes a=18):Fx I c (jaJ st c a):=by
 obtain ⟨hal,hak⟩:=hI _ ha
 have hb:=(ht.shape a.toNat hal).1.block hk
 have hnode:c.node a=nth t.nodes a.toNat:=by unfold Ck.node;rw [hc]
 unfold jaJ
 simp only
 refine ((jkW c ha).trans (jf1 (C:=isS) hs _ _ hc fun b hb'=>?_)).trans (jfE rfl rfl rfl)
 rw [hnode] at hb'
 exact ⟨hak b hb',hb b hb'⟩
theorem jyI {t:GTree} {I:Nat→Prop} {ex:Ck→Int→Ck×Int} (c:Ck) (a:Int) (hx:Fx I c (ex c (c.kid a 0)).1):Fx I c (jpJ ex c a):=by
 have hA:Fx I c (je1 ex c a):=hx.trans (jdG _ _ _ _)
 have hB:Fx I (je1 ex c a) (jhs ex c a):=jsW (jdw _ _ _ _) (.refl _ _)
 have hC:Fx I (jhs ex c a) (jcv ex c a):=jsW (jdw _ _ _ _) (.refl _ _)
 rw [jht]
 exact ((hA.trans hB).trans hC).trans (jfE rfl rfl rfl)
theorem joi {t:GTree} (ht:TreeOk t) {I:Nat→Prop} (hI:Cl t I) {n:Nat} (ih:∀ (c:Ck) (a:Int),c.tree=t→I a.toNat→isS (jaj t.nodes a)→Fx I c (jab n c a)) (c:Ck) (a:Int) (hc:c.tree=t) (ha:I a.toNat) (hr:isS (jaj t.nodes a)):Fx I (c.noteF a) (jab (n+1) c a):=by
 have hx:=jm9 ht hI n
 obtain ⟨hal,hak⟩:=hI _ ha
 have sh:=(ht.shape a.toNat hal).1
 have hnode:(c.noteF a).node a=nth t.nodes a.toNat:=by unfold Ck.node;show nth c.tree.nodes _=_;rw [hc]
 have hc':(c.noteF a).tree=t:=hc
 have kd:∀ i,(c.noteF a).kid a i=nth (nth t.nodes a.toNat).l i:=fun i=>by unfold Ck.kid;rw [hnode]
 have hr':isS (nth t.nodes a.toNat).kind:=hr
 unfold isS at hr'
 have one:∀ x,(nth t.nodes a.toNat).l=[x]→isR (jaj t.nodes x)→∀ c',c'.tree=t→Fx I c' (jac n c' ((c.noteF a).kid a 0)).1:=fun x hl hxe d hd=>by
  have hk0:(c.noteF a).kid a 0=x:=by rw [kd,hl];rfl
  rw [hk0]
  exact hx d x hd (hak x (by rw [hl];simp)) hxe
 unfold jab
 simp only
 rw [hnode]
 split
 ·obtain ⟨x,hl,hxe⟩:=sh.right (by omega)
  exact jyI (t:=t) _ _ (one x hl hxe _ hc')
 split
 ·obtain ⟨x,hl,hxe⟩:=sh.right (by omega)
  exact ((jeW I _ a).trans (one x hl hxe _ ((jeW I _ a).tree.trans hc'))).trans (jdG _ _ _ _)
 split
 ·obtain ⟨x,y,hl,hxe,hye⟩:=sh.two (by omega)
  have hk0:(c.noteF a).kid a 0=x:=by rw [kd,hl];rfl
  have hk1:(c.noteF a).kid a 1=y:=by rw [kd,hl];rfl
  rw [hk0,hk1]
  have h0:=jeW I (c.noteF a) a
  have h1:=h0.trans (hx _ x (h0.tree.trans hc') (hak x (by rw [hl];simp)) (.inl hxe))
  exact (h1.trans (hx _ y (h1.tree.trans hc') (hak y (by rw [hl];simp)) (.inl hye))).trans (jdG _ _ _ _)
 split
 ·obtain ⟨x,hl,hxk⟩:=sh.do_ (by omega)
  exact one x hl (by rw [hxk];unfold isR;omega) _ hc'
 split
 ·obtain ⟨x,hl,hxe⟩:=sh.one (by omega)
  exact (one x hl (.inl hxe) _ hc').trans (jdG _ _ _ _)
 split
 ·unfold jbd
  simp only
  rw [hnode]
  split
  ·exact jdw _ _ _ _
  split
  ·rename_i e1
   rcases sh.ret (by omega) with hl | ⟨x,hl,hxe⟩
   ·rw [hl] at e1;cases e1
   ·exact (one x hl (.inl hxe) _ hc').trans (jdG _ _ _ _)
  ·exact .refl _ _
 ·have hsh:∃ x L,(nth t.nodes a.toNat).l=x::L∧isE (jaj t.nodes x)∧∀ y∈L,jaj t.nodes y=18:=by
   rcases (show (nth t.nodes a.toNat).kind=15∨(nth t.nodes a.toNat).kind=16 by omega) with k | k
   ·obtain ⟨x,y,hx,hy,hl | ⟨z,hl,hz⟩⟩:=sh.if_ k
    ·exact ⟨x,[y],hl,hx,fun u hu=>by rw [List.mem_singleton.1 hu];exact hy⟩
    ·exact ⟨x,[y,z],hl,hx,fun u hu=>by
      rcases List.mem_cons.1 hu with rfl | hu
      ·exact hy
      ·rw [List.mem_singleton.1 hu];exact hz⟩
   ·obtain ⟨x,y,hl,hx,hy⟩:=sh.while_ k
    exact ⟨x,[y],hl,hx,fun u hu=>by rw [List.mem_singleton.1 hu];exact hy⟩
  obtain ⟨x,L,hl,hxe,hL⟩:=hsh
  have hk0:(c.noteF a).kid a 0=x:=by rw [kd,hl];rfl
  rw [hk0,hl]
  have h1:=(hx (c.noteF a) x hc' (hak x (by rw [hl];simp)) (.inl hxe)).trans (jdG _ _ (decide ((jac n (c.noteF a) x).2=2)) a)
  refine h1.trans (jf1 (C:=fun k=>k=18) (fun d b hd hb hk=>jkV ht hI ih d b hd hb hk) _ _ (h1.tree.trans hc') fun b hb=>?_)
  have hb:b∈L:=hb
  exact ⟨hak b (by rw [hl];simp [hb]),hL b hb⟩
theorem jct {t:GTree} (ht:TreeOk t) {I:Nat→Prop} (hI:Cl t I):∀ (n:Nat) (c:Ck) (a:Int),c.tree=t→I a.toNat→isS (jaj t.nodes a)→Fx I c (jab n c a)
 | 0,c,a,hc,ha,hr=>by unfold jab;exact .refl _ c
 | n+1,c,a,hc,ha,hr=>(jkW c ha).trans (joi ht hI (jct ht hI n) c a hc ha hr)
theorem jeS {t:GTree} (ht:TreeOk t) {lo hi:Nat} {L:List Int} (h:Chain t.nodes lo L hi) (hl:hi≤t.nodes.length):Cl t fun k=>lo≤k∧k < hi:=fun k ⟨h1,h2⟩=>⟨by omega,fun a ha=>by
 have:=h.closed k h1 h2 a ha
 have:=((ht.shape k (by omega)).2.1 a ha).2
 omega⟩
theorem jlT (I:Nat→Prop) (body:Int):∀ (ps:List GParam) (c:Ck) (i:Int),Fx I c (jav body c ps i)
 | [],c,i=>by unfold jav;exact .refl _ c
 | p::ps,c,i=>by
  unfold jav
  simp only
  have h1:Fx I c (if 0≤c.find p.name then c.fails 41 body else c):=jsW (jdw I c 41 body) (.refl _ c)
  generalize (if 0≤c.find p.name then c.fails 41 body else c)=d at *
  refine h1.trans ?_
  exact Fx.trans (b:={ d with vars:=d.vars++[⟨p.name,p.ty,i⟩],more:=d.more.drop 1,size:=d.size+1 }) (jfE rfl rfl rfl) (jlT I body ps _ _)
theorem jna {t:GTree} (ht:TreeOk t) {c:Ck} (hc:c.tree=t) {k:Nat} (hk:k < t.fns.length) {lo:Nat} (hch:Chain t.nodes lo (nth t.nodes (nth t.fns k).body.toNat).l (nth t.fns k).body.toNat):∀ q,(q < lo∨(nth t.fns k).body.toNat+1≤q)→nth (jar c k).fns q=nth c.fns q:=by
 subst hc
 have hbN:=jcU ht hk
 have hbk:=ht.body _ (jaw hk)
 have hch2:=Chain.one' hbN.1 hbN.2 hch
 have hI:=jeS ht hch2 (by have:=hbN.1;have:=hbN.2;omega)
 have h:Fx (fun q=>lo≤q∧q < (nth c.tree.fns k).body.toNat+1) { c with fn:=(k:Int),vars:=[],more:=[],size:=0 } (jar c k):=by
  unfold jar
  simp only
  have h1:=jlT (fun q=>lo≤q∧q < (nth c.tree.fns k).body.toNat+1) (nth c.tree.fns k).body (nth c.tree.fns k).params { c with fn:=(k:Int),vars:=[],more:=[],size:=0 } 0
  generalize jav (nth c.tree.fns k).body { c with fn:=(k:Int),vars:=[],more:=[],size:=0 } (nth c.tree.fns k).params 0=d at *
  have h2:=h1.trans (jkV ht hI (jct ht hI c.tree.nodes.length) d (nth c.tree.fns k).body h1.tree ⟨by have:=hch.le;omega,by omega⟩ hbk)
  split
  ·exact h2.trans (jfE rfl rfl rfl)
  ·exact h1.trans (jfE rfl rfl rfl)
 intro q hq
 rcases h.at_ q with e | ⟨e,_⟩
 ·exact e
 ·omega
end Go.Proofs.YtfkgcobaheegbaaGreatDoor
namespace Go.Gd
open Go
def jdY (p:GProg) (L:List Int) (vars:List GVar):List GVar:=L.foldl (fun v x=>jk3 p x v) vars
theorem jiW (p:GProg) (A B:List Int) (vars:List GVar):jdY p (A++B) vars=jdY p B (jdY p A vars):=List.foldl_append
def jgE (p:GProg) (x:Int):Int:=jda GFunc.name (jag p x).name p.tree.fns 0 (-1)
structure CallW (p:GProg) (x:Int):Prop where
 ret:nth p.types x.toNat=(nth p.tree.fns (jgE p x).toNat).ret
 args:∀ i,i < (jag p x).l.length→nth p.types (nth (jag p x).l i).toNat=(nth (nth p.tree.fns (jgE p x).toNat).params i).ty
structure StW (p:GProg) (j:Nat) (kids:List GVar→Int→Prop) (vars:List GVar) (x:Int):Prop where
 fn:nth p.fn x.toNat=j
 let_:(jag p x).kind=10→∀ v∈vars,v.name≠(jag p x).name∧v.slot≠nth p.slots x.toNat
 set:(jag p x).kind=11→∃ v∈vars,v.name=(jag p x).name∧v.slot=nth p.slots x.toNat∧v.ty=nth p.types (nth (jag p x).l 0).toNat
 put:(jag p x).kind=12→∃ v∈vars,v.name=(jag p x).name∧v.slot=nth p.slots x.toNat∧v.ty=4
 call:(jag p x).kind=10∨(jag p x).kind=11∨(jag p x).kind=13→(jag p (nth (jag p x).l 0)).kind=21→CallW p (nth (jag p x).l 0)
 ret:(jag p x).kind=17→((jag p x).l.length=1→nth p.types (nth (jag p x).l 0).toNat=(nth p.tree.fns j).ret)∧((jag p x).l.length≠1→(nth p.tree.fns j).ret=0)
 kids:(jag p x).kind=15∨(jag p x).kind=16→∀ b∈(jag p x).l.drop 1,kids vars b
def LiW (s:List GVar→Int→Prop) (p:GProg):List GVar→List Int→Prop
 | _,[]=>True
 | vars,x::l=>s vars x∧LiW s p (jk3 p x vars) l
def BlW (p:GProg) (j:Nat):Nat→List GVar→Int→Prop
 | 0,_,_=>True
 | n+1,vars,b=>LiW (StW p j (BlW p j n)) p vars (jag p b).l
def jim (l:List GVar):Prop:=l.Pairwise fun v w=>v.name≠w.name∧v.slot≠w.slot
structure FnWt (p:GProg) (j:Nat):Prop where
 env:jim (jft (nth p.tree.fns j).params 0)
 body:∀ m,BlW p j m (jft (nth p.tree.fns j).params 0) (nth p.tree.fns j).body
end Go.Gd
namespace Go.Proofs.YtfkgcobaheegbaaGreatDoor
open Go Go.Gd
set_option maxHeartbeats 4000000
def Agree (p:GProg) (c:Ck) (lo hi:Nat):Prop:=∀ k,lo≤k→k < hi→nth p.types k=nth c.types k∧nth p.slots k=nth c.slots k∧nth p.fn k=nth c.fns k
theorem Agree.sub {p:GProg} {c c':Ck} {lo hi lo' hi':Nat} (h:Agree p c lo hi) (h1:lo≤lo') (h2:hi'≤hi) (e:∀ k,lo'≤k→k < hi'→nth c.types k=nth c'.types k∧nth c.slots k=nth c'.slots k∧nth c.fns k=nth c'.fns k):Agree p c' lo' hi':=fun k h3 h4=>by
 obtain ⟨a,b,b'⟩:=h k (by omega) (by omega)
 obtain ⟨d,f,f'⟩:=e k h3 h4
 exact ⟨a.trans d,b.trans f,b'.trans f'⟩
structure Rd2 (t:GTree) (lo hi:Nat) (c c':Ck):Prop where
 ty:TyR t lo hi c c'
 sl:SlR t lo hi c c'
 fx:Fx (fun k=>lo≤k∧k < hi) c c'
theorem Fx.out {lo hi:Nat} {c c':Ck} (h:Fx (fun k=>lo≤k∧k < hi) c c') (k:Nat) (hk:k < lo∨hi≤k):nth c'.fns k=nth c.fns k:=by
 rcases h.at_ k with e | ⟨e,_⟩
 ·exact e
 ·omega
theorem Rd2.out {t:GTree} {lo hi:Nat} {c c':Ck} (h:Rd2 t lo hi c c') (k:Nat) (hk:k < lo∨hi≤k):nth c'.types k=nth c.types k∧nth c'.slots k=nth c.slots k∧nth c'.fns k=nth c.fns k:=⟨h.ty.tw k hk,h.sl.sw k hk,h.fx.out k hk⟩
theorem jnv {t:GTree} (ht:TreeOk t) {n:Nat} {c:Ck} {a:Int} {lo:Nat} (h:CkIn c) (hc:c.tree=t) (hv:VarsT c) (hs:VarsS c) (h0:0≤a) (h1:a < t.nodes.length) (hn:a.toNat < n) (hr:isR (jaj t.nodes a)) (hch:Chain t.nodes lo (nth t.nodes a.toNat).l a.toNat) (he:(jac n c a).1.e=0) :
  Rd2 t lo (a.toNat+1) c (jac n c a).1∧nth (jac n c a).1.types a.toNat=(jac n c a).2:=by
 obtain ⟨r1,r2,_⟩:=jfN ht n c a lo h hc hv h0 h1 hn hr hch he
 exact ⟨⟨r1,jg0 ht n c a lo h hc hs h0 h1 hn hr hch he,jm9 ht (jeS ht (Chain.one' h0 h1 hch) (by omega)) n c a hc ⟨hch.le,by omega⟩ hr⟩,r2⟩
theorem jqn {t:GTree} (ht:TreeOk t) {n:Nat}:∀ (L:List Int) (c:Ck) (ts:List Int) (lo hi:Nat),CkIn c→c.tree=t→VarsT c→VarsS c→hi≤n→hi≤t.nodes.length→(∀ x∈L,isR (jaj t.nodes x))→Chain t.nodes lo L hi→(jbV (jac n) c L ts).1.e=0→(jbV (jac n) c L ts).2=ts++L.map fun x=>nth (jbV (jac n) c L ts).1.types x.toNat
 | [],c,ts,lo,hi,h,hc,hv,hs,hn,hl,hr,hch,he=>by simp [jbV]
 | a::L,c,ts,lo,hi,h,hc,hv,hs,hn,hl,hr,hch,he=>by
  have e0:=(jec (jat n) (a::L) c ts).e0 he
  unfold jbV at he ⊢
  rw [if_pos e0] at he ⊢
  obtain ⟨c1,c2,c3,c4,c5,c6⟩:=jcI hch
  have ev:=jat n c a
  have e1:=(jec (jat n) L _ _).e0 he
  obtain ⟨r1,r2⟩:=jnv ht h hc hv hs c1 c2 (by omega) (hr a (by simp)) c5 e1
  have hr':∀ x∈L,isR (jaj t.nodes x):=fun x hx=>hr x (by simp [hx])
  have k1:=jnD ht (jfN ht n) L (jac n c a).1 (ts++[(jac n c a).2]) (a.toNat+1) hi (h.ev ev) (ev.tree.trans hc) (hv.ev ev) hn hl hr' c6 he
  have k2:=jqn ht L (jac n c a).1 (ts++[(jac n c a).2]) (a.toNat+1) hi (h.ev ev) (ev.tree.trans hc) (hv.ev ev) (hs.ev ev) hn hl hr' c6 he
  rw [k2,List.map_cons,k1.tw a.toNat (.inl (by omega)),r2]
  simp
theorem jpc (a:Int):∀ (ts:List Int) (ps:List GParam) (c:Ck),(jbx a c ts ps).e=0→c.e=0∧∀ i,i < ts.length→i < ps.length→nth ts i=(nth ps i).ty
 | [],ps,c,h=>by rw [jcw] at h;exact ⟨h,fun i hi=>by simp at hi⟩
 | _::_,[],c,h=>by rw [jcx] at h;exact ⟨h,fun i _ hi=>by simp at hi⟩
 | x::ts,p::ps,c,h=>by
  unfold jbx at h
  split at h
  ·rename_i e
   obtain ⟨h1,h2⟩:=jpc a ts ps _ h
   obtain ⟨h3,h4⟩:=jbc h1
   refine ⟨h4,fun i hi hi'=>?_⟩
   cases i with
   | zero=>exact of_decide_eq_true h3
   | succ i=>exact h2 i (by simpa using hi) (by simpa using hi')
  ·rename_i e;exact (e h).elim
theorem jye {t:GTree} (ht:TreeOk t) {n:Nat} {c:Ck} {a:Int} {lo:Nat} (h:CkIn c) (hc:c.tree=t) (hv:VarsT c) (hs:VarsS c) (h0:0≤a) (h1:a < t.nodes.length) (hn:a.toNat < n) (hk:(nth t.nodes a.toNat).kind=21) (hch:Chain t.nodes lo (nth t.nodes a.toNat).l a.toNat) (he:(jac n c a).1.e=0) {p:GProg} (hp:p.tree=t) (hA:Agree p (jac n c a).1 lo (a.toNat+1)):CallW p a:=by
 obtain ⟨m,rfl⟩:∃ m,n=m+1:=⟨n - 1,by omega⟩
 have hr:isR (jaj t.nodes a):=by have:jaj t.nodes a=21:=hk;rw [this];unfold isR;omega
 obtain ⟨_,hty⟩:=jnv ht h hc hv hs h0 h1 hn hr hch he
 have e0:=(jat (m+1) c a).e0 he
 have hnode:c.node a=nth t.nodes a.toNat:=by unfold Ck.node;rw [hc]
 have hndp:jag p a=nth t.nodes a.toNat:=by unfold jag;rw [hp]
 have e:jam (jac m) c a=jb3 (jac m) c a:=by unfold jam;simp only;rw [hnode,hk];rfl
 have hcal:jaF c a=jgE p a:=by unfold jaF jgE;rw [hnode,hndp,hc,hp]
 have hcall:=(ht.shape a.toNat (by omega)).1.call hk
 have hex:jac (m+1) c a=((jb3 (jac m) c a).1.note a (jb3 (jac m) c a).2,(jb3 (jac m) c a).2):=by
  conv=>lhs;unfold jac
  rw [if_neg (by omega),e]
 rw [hex] at he hA hty
 have he:(jb3 (jac m) c a).1.e=0:=he
 have hAa:=(hA a.toNat hch.le (by omega)).1
 have hty:nth ((jb3 (jac m) c a).1.note a (jb3 (jac m) c a).2).types a.toNat=(jb3 (jac m) c a).2:=hty
 unfold jb3 at he hA hAa hty
 split at he
 ·exact (jbJ (by decide) he).elim
 rename_i hf
 rw [if_neg hf] at hA hAa hty
 simp only at he hA hAa hty
 obtain ⟨e1,e2⟩:=jpc _ _ _ _ he
 have e1':=e1
 split at e1'
 ·exact (jbJ (by decide) e1').elim
 rename_i hl
 rw [if_neg hl] at hA
 have hrl:∀ x∈(c.node a).l,isR (jaj t.nodes x):=fun x hx=>.inl (hcall x (by rw [← hnode];exact hx))
 have hchl:Chain t.nodes lo (c.node a).l a.toNat:=by rw [hnode];exact hch
 have k2:=jqn ht (n:=m) (c.node a).l c [] lo a.toNat h hc hv hs (by omega) (by omega) hrl hchl e1'
 rw [List.nil_append] at k2
 refine ⟨?_,fun i hi=>?_⟩
 ·rw [hAa,hty,hcal,hc,hp]
 ·rw [hndp,← hnode] at hi ⊢
  have hpl:i < (nth c.tree.fns (jaF c a).toNat).params.length:=by omega
  have h3:=e2 i (by rw [k2,List.length_map];exact hi) hpl
  rw [k2,ja3 (by rw [List.length_map];exact hi),List.getElem_map] at h3
  have hm:=(ht.shape a.toNat (by omega)).2.1 _ (by rw [← hnode];exact jaw hi)
  have hlo:=(hchl.mem _ (jaw hi)).2.1
  have hA1:=(hA (nth (c.node a).l i).toNat hlo (by omega)).1
  rw [hA1]
  show nth (List.set (jbx a _ _ _).types a.toNat _) _=_
  rw [jc3,if_neg (by omega),jfO,← hcal,hp,← hc,← h3,ja3 hi]
theorem jqC {c:Ck} {nm:ByteArray} (h:¬ 0≤c.find nm):∀ v∈c.vars,v.name≠nm:=by
 rcases jiH GVar.name nm c.vars 0 (by omega) with ⟨_,h2⟩ | h1
 ·exact h2
 ·exact (h h1.1).elim
theorem jsR {c:Ck} {nm:ByteArray} (h:¬ c.find nm < 0):nth c.vars (c.find nm).toNat∈c.vars∧(nth c.vars (c.find nm).toNat).name=nm:=by
 have key:∀ (l:List GVar) (i:Int),0≤i→jb4 GVar.name nm l i=-1∨(nth l (jb4 GVar.name nm l i - i).toNat∈l∧(nth l (jb4 GVar.name nm l i - i).toNat).name=nm∧i≤jb4 GVar.name nm l i):=fun l=>by
  induction l with
  | nil=>intro i _;exact .inl rfl
  | cons v l ih=>
   intro i hi
   unfold jb4
   by_cases hv:v.name=nm
   ·rw [if_pos hv,show (i - i).toNat=0 by omega]
    exact .inr ⟨by show v∈_;simp,hv,Int.le_refl _⟩
   ·rw [if_neg hv]
    rcases ih (i+1) (by omega) with e | ⟨a,b,d⟩
    ·exact .inl e
    ·rw [show (jb4 GVar.name nm l (i+1) - i).toNat=(jb4 GVar.name nm l (i+1) - (i+1)).toNat+1 by omega]
     exact .inr ⟨List.mem_cons_of_mem _ a,b,by omega⟩
 rcases key c.vars 0 (Int.le_refl _) with e | ⟨a,b,_⟩
 ·exact (h (by show jb4 GVar.name nm c.vars 0 < 0;rw [e];decide)).elim
 ·rw [Int.sub_zero] at a b;exact ⟨a,b⟩
theorem jq9 {c c':Ck} {a:Int} {p:GProg} (hsl:a.toNat < c.slots.length) (he:(c.named a).1.e=0) (hA:nth p.slots a.toNat=nth c'.slots a.toNat) (hsame:nth c'.slots a.toNat=nth (c.named a).1.slots a.toNat):∃ v∈c.vars,v.name=(c.node a).name∧v.slot=nth p.slots a.toNat∧v.ty=(c.named a).2:=by
 rw [hA,hsame]
 unfold Ck.named at he ⊢
 split at he
 ·exact (jbJ (by decide) he).elim
 rename_i hf
 rw [if_neg hf]
 obtain ⟨h1,h2⟩:=jsR hf
 refine ⟨_,h1,h2,?_,rfl⟩
 show _=nth (List.set _ _ _) _
 rw [jc3,if_pos ⟨rfl,hsl⟩]
def StG (t:GTree) (n:Nat):Prop:=∀ (c:Ck) (a:Int) (lo:Nat),CkIn c→c.tree=t→VarsT c→VarsS c→c.e=0→0≤a→a < t.nodes.length→a.toNat < n→isS (jaj t.nodes a)→Chain t.nodes lo (nth t.nodes a.toNat).l a.toNat→(jab n c a).e=0→
 ∀ p:GProg,p.tree=t→Agree p (jab n c a) lo (a.toNat+1)→∀ j:Nat,c.fn=(j:Int)→(∀ m,StW p j (BlW p j m) c.vars a)∧(jab n c a).vars=jk3 p a c.vars
theorem jv2 {t:GTree} (ht:TreeOk t) {n:Nat} {c:Ck} {a:Int} {lo:Nat} (h:CkIn c) (hc:c.tree=t) (hv:VarsT c) (hs:VarsS c) (e0:c.e=0) (h0:0≤a) (h1:a < t.nodes.length) (hn:a.toNat < n) (hr:isS (jaj t.nodes a)) (hch:Chain t.nodes lo (nth t.nodes a.toNat).l a.toNat) (he:(jab n c a).e=0) :
  Rd2 t lo (a.toNat+1) c (jab n c a)∧VarsT (jab n c a)∧VarsS (jab n c a):=by
 obtain ⟨r1,r2⟩:=jhc ht n c a lo h hc hv e0 h0 h1 hn hr hch he
 obtain ⟨r3,r4⟩:=jg1 ht n c a lo h hc hs e0 h0 h1 hn hr hch he
 exact ⟨⟨r1,r3,jct ht (jeS ht (Chain.one' h0 h1 hch) (by omega)) n c a hc ⟨hch.le,by omega⟩ hr⟩,r2,r4⟩
theorem jph {t:GTree} (ht:TreeOk t) {n:Nat} (hst:StG t n):∀ (L:List Int) (c:Ck) (lo hi:Nat),CkIn c→c.tree=t→VarsT c→VarsS c→hi≤n→hi≤t.nodes.length→(∀ x∈L,isS (jaj t.nodes x))→Chain t.nodes lo L hi→(jaz (jab n) c L).e=0→
  ∀ p:GProg,p.tree=t→Agree p (jaz (jab n) c L) lo hi→∀ j:Nat,c.fn=(j:Int)→∀ m,LiW (StW p j (BlW p j m)) p c.vars L
 | [],c,lo,hi,h,hc,hv,hs,hn,hl,hr,hch,he,p,hp,hA,j,hj,m=>trivial
 | a::L,c,lo,hi,h,hc,hv,hs,hn,hl,hr,hch,he,p,hp,hA,j,hj,m=>by
  have e0:=(jb7 (jaC n) (a::L) c h).e0 he
  unfold jaz at he hA
  rw [if_pos e0] at he hA
  obtain ⟨c1,c2,c3,c4,c5,c6⟩:=jcI hch
  have s:=jaC n c a h e0
  have e1:=(jb7 (jaC n) L _ s.inv).e0 he
  have hra:=hr a (by simp)
  obtain ⟨r1,v1,v2⟩:=jv2 ht h hc hv hs e0 c1 c2 (by omega) hra c5 e1
  have hr':∀ x∈L,isS (jaj t.nodes x):=fun x hx=>hr x (by simp [hx])
  have k1:=(jgx ht (jaC n) (C:=isS) (fun q b l g1 g2 g3 g4 g5 g6 g7 g8 g9 g10=>jhc ht n q b l g1 g2 g3 g4 g5 g6 g7 g8 g9 g10) L _ _ hi s.inv (s.tree.trans hc) v1 hn hl hr' c6 he).1
  have k2:=(jgl (jaC n) (C:=isS) (jg1 ht n) L _ _ hi s.inv (s.tree.trans hc) v2 hn hr' c6 he).1
  have hI:=jeS ht c6 hl
  have k3:=jf1 (t:=t) (I:=fun k=>a.toNat+1≤k∧k < hi) (C:=isS) (jct ht hI n) L (jab n c a) (s.tree.trans hc) fun x hx=>⟨⟨(c6.mem x hx).2.1,(c6.mem x hx).2.2.1⟩,hr' x hx⟩
  obtain ⟨w1,w2⟩:=hst c a lo h hc hv hs e0 c1 c2 (by omega) hra c5 e1 p hp (hA.sub (Nat.le_refl _) (by omega) fun k g1 g2=>⟨k1.tw k (.inl (by omega)),k2.sw k (.inl (by omega)),k3.out k (.inl (by omega))⟩) j hj
  refine ⟨w1 m,?_⟩
  have w3:=jph ht hst L _ (a.toNat+1) hi s.inv (s.tree.trans hc) v1 v2 hn hl hr' c6 he p hp (hA.sub (by omega) (Nat.le_refl _) fun k g1 g2=>⟨rfl,rfl,rfl⟩) j (s.fn.trans hj) m
  rw [w2] at w3
  exact w3
theorem jpf {t:GTree} (ht:TreeOk t) {n:Nat} (hst:StG t n) {c:Ck} {a:Int} {lo:Nat} (h:CkIn c) (hc:c.tree=t) (hv:VarsT c) (hs:VarsS c) (h0:0≤a) (h1:a < t.nodes.length) (hn:a.toNat≤n) (hk:jaj t.nodes a=18) (hch:Chain t.nodes lo (nth t.nodes a.toNat).l a.toNat) (he:(jaJ (jab n) c a).e=0) {p:GProg} (hp:p.tree=t) (hA:Agree p (jaJ (jab n) c a) lo (a.toNat+1)) {j:Nat} (hj:c.fn=(j:Int)):∀ m,BlW p j m c.vars a
 | 0=>trivial
 | m+1=>by
  have hnode:c.node a=nth t.nodes a.toNat:=by unfold Ck.node;rw [hc]
  have hb:=(ht.shape a.toNat (by omega)).1.block hk
  have ev:=jcB c a
  show LiW _ p c.vars (jag p a).l
  have hnp:(jag p a).l=(c.node a).l:=by unfold jag;rw [hp,hnode]
  rw [hnp]
  exact jph ht hst (c.node a).l (c.noteF a) lo a.toNat (h.ev ev) (ev.tree.trans hc) (hv.ev ev) (hs.ev ev) hn (by omega) (fun x hx=>hb x (by rw [← hnode];exact hx)) (by rw [hnode];exact hch) he p hp (hA.sub (Nat.le_refl _) (by omega) fun k _ _=>⟨rfl,rfl,rfl⟩) j hj m
theorem jmK {t:GTree} (ht:TreeOk t) {n:Nat} (hst:StG t n):∀ (L:List Int) (c:Ck) (lo hi:Nat),CkIn c→c.tree=t→VarsT c→VarsS c→hi≤n→hi≤t.nodes.length→(∀ x∈L,jaj t.nodes x=18)→Chain t.nodes lo L hi→(jaz (jaJ (jab n)) c L).e=0→
  ∀ p:GProg,p.tree=t→Agree p (jaz (jaJ (jab n)) c L) lo hi→∀ j:Nat,c.fn=(j:Int)→(∀ b∈L,∀ m,BlW p j m c.vars b)∧(jaz (jaJ (jab n)) c L).vars=c.vars
 | [],c,lo,hi,h,hc,hv,hs,hn,hl,hr,hch,he,p,hp,hA,j,hj=>⟨fun b hb=>by simp at hb,rfl⟩
 | a::L,c,lo,hi,h,hc,hv,hs,hn,hl,hr,hch,he,p,hp,hA,j,hj=>by
  have hsb:∀ (q:Ck) b,CkIn q→q.e=0→Sv q (jaJ (jab n) q b):=fun q b hq _=>(jck (jaC n) hq b).1
  have e0:=(jb7 hsb (a::L) c h).e0 he
  unfold jaz at he hA ⊢
  rw [if_pos e0] at he hA ⊢
  obtain ⟨c1,c2,c3,c4,c5,c6⟩:=jcI hch
  obtain ⟨s,sv⟩:=jck (jaC n) h a
  have e1:=(jb7 hsb L _ s.inv).e0 he
  have hra:=hr a (by simp)
  have r1:=jik ht (jhc ht n) c a lo h hc hv c1 c2 (by omega) hra c5 e1
  have r2:=jib ht (jg1 ht n) c a lo h hc hs c1 c2 (by omega) hra c5 e1
  have hr':∀ x∈L,jaj t.nodes x=18:=fun x hx=>hr x (by simp [hx])
  have k1:=(jgx ht hsb (C:=fun k=>k=18) (n:=n) (fun q b l g1 g2 g3 _ g5 g6 g7 g8 g9 g10=>jik ht (jhc ht n) q b l g1 g2 g3 g5 g6 (by omega) g8 g9 g10) L _ _ hi s.inv (s.tree.trans hc) r1.2 hn hl hr' c6 he).1
  have k2:=(jgl hsb (C:=fun k=>k=18) (n:=n) (fun q b l g1 g2 g3 _ g5 g6 g7 g8 g9 g10=>jib ht (jg1 ht n) q b l g1 g2 g3 g5 g6 (by omega) g8 g9 g10) L _ _ hi s.inv (s.tree.trans hc) r2.2 hn hr' c6 he).1
  have hI:=jeS ht c6 hl
  have k3:=jf1 (t:=t) (I:=fun k=>a.toNat+1≤k∧k < hi) (C:=fun k=>k=18) (fun d b hd hb hk=>jkV ht hI (jct ht hI n) d b hd hb hk) L (jaJ (jab n) c a) (s.tree.trans hc) fun x hx=>⟨⟨(c6.mem x hx).2.1,(c6.mem x hx).2.2.1⟩,hr' x hx⟩
  have w1:=jpf ht hst h hc hv hs c1 c2 (by omega) hra c5 e1 hp (hA.sub (Nat.le_refl _) (by omega) fun k g1 g2=>⟨k1.tw k (.inl (by omega)),k2.sw k (.inl (by omega)),k3.out k (.inl (by omega))⟩) hj
  obtain ⟨w2,w3⟩:=jmK ht hst L _ (a.toNat+1) hi s.inv (s.tree.trans hc) r1.2 r2.2 hn hl hr' c6 he p hp (hA.sub (by omega) (Nat.le_refl _) fun k g1 g2=>⟨rfl,rfl,rfl⟩) j (s.fn.trans hj)
  rw [sv] at w2
  refine ⟨fun b hb=>?_,w3.trans sv⟩
  rcases List.mem_cons.1 hb with rfl | hb
  ·exact w1
  ·exact w2 b hb
theorem joH (c:Ck) (b:Bool) (a:Int):(c.must b a).fns=c.fns:=by
 unfold Ck.must;split
 ·rfl
 ·unfold Ck.fails;split<;>rfl
theorem jfG {p:GProg} {a:Int} {vars:List GVar} (h:(jag p a).kind≠10):jk3 p a vars=vars:=if_neg h
theorem jpg {t:GTree} (ht:TreeOk t) {n:Nat} {c0:Ck} {a x:Int} {lo:Nat} (h:CkIn c0) (hc:c0.tree=t) (hv:VarsT c0) (hs:VarsS c0) (hn:a.toNat≤n) (hl:(nth t.nodes a.toNat).l=[x]) (hx:isR (jaj t.nodes x)) (hch:Chain t.nodes lo (nth t.nodes a.toNat).l a.toNat) (he:(jac n c0 x).1.e=0) :
  Rd2 t lo a.toNat c0 (jac n c0 x).1∧nth (jac n c0 x).1.types x.toNat=(jac n c0 x).2∧lo≤x.toNat∧x.toNat < a.toNat∧∀ {p:GProg},p.tree=t→(nth t.nodes x.toNat).kind=21→Agree p (jac n c0 x).1 lo a.toNat→CallW p x:=by
 rw [hl] at hch
 obtain ⟨c1,c2,c3,c4,c5⟩:=jfq hch
 rw [c4]
 obtain ⟨r1,r2⟩:=jnv ht h hc hv hs c1 c2 (by omega) hx c5 he
 exact ⟨r1,r2,c3,by omega,fun hp hk hA=>jye ht h hc hv hs c1 c2 (by omega) hk c5 he hp hA⟩
theorem jr7 {t:GTree} (ht:TreeOk t):∀ n,StG t n
 | 0=>fun c a lo h hc hv hs e0 h0 h1 hn=>by omega
 | n+1=>fun c a lo h hc hv hs e0 h0 h1 hn hr hch he p hp hA j hj=>by
  have ih:=jr7 ht n
  have hnode:(c.noteF a).node a=nth t.nodes a.toNat:=by unfold Ck.node;show nth c.tree.nodes _=_;rw [hc]
  have sh:=(ht.shape a.toNat (by omega)).1
  have kd:∀ i,(c.noteF a).kid a i=nth (nth t.nodes a.toNat).l i:=fun i=>by unfold Ck.kid;rw [hnode]
  have hnd:jag p a=nth t.nodes a.toNat:=by unfold jag;rw [hp]
  have ndp:∀ x:Int,jag p x=nth t.nodes x.toNat:=fun x=>by unfold jag;rw [hp]
  have ev:=jcB c a
  have h':=h.ev ev
  have hc':=ev.tree.trans hc
  have hv':=hv.ev ev
  have hs':=hs.ev ev
  have hlo:=hch.le
  have hkr:(nth t.nodes a.toNat).kind=10∨(nth t.nodes a.toNat).kind=11∨(nth t.nodes a.toNat).kind=12∨(nth t.nodes a.toNat).kind=13∨(nth t.nodes a.toNat).kind=14∨(nth t.nodes a.toNat).kind=17∨(nth t.nodes a.toNat).kind=15∨(nth t.nodes a.toNat).kind=16:=by
   have:isS (nth t.nodes a.toNat).kind:=hr
   unfold isS at this
   omega
  have hsl:a.toNat < (c.noteF a).slots.length:=by rw [h'.slots,hc'];omega
  have hfn:nth p.fn a.toNat=(j:Int):=by
   rw [(hA a.toNat hlo (by omega)).2.2,← hj]
   have hI:=jeS ht (Chain.one' h0 h1 hch) (by omega)
   have fx:=joi ht hI (jct ht hI n) c a hc ⟨hlo,by omega⟩ hr
   rcases fx.at_ a.toNat with e | ⟨_,e⟩
   ·rw [e]
    show nth (c.fns.set a.toNat c.fn) a.toNat=_
    rw [jc3,if_pos ⟨rfl,by rw [h.fns,hc];omega⟩]
   ·exact e
  rcases hkr with k | k | k | k | k | k | k
  ·have e:jab (n+1) c a=jpJ (jac n) (c.noteF a) a:=by unfold jab;simp only;rw [hnode,k];rfl
   obtain ⟨x,hl,hxr⟩:=sh.right (by omega)
   have hk0:(c.noteF a).kid a 0=x:=by rw [kd,hl];rfl
   rw [e] at he hA ⊢
   rw [jht] at he hA ⊢
   have he:(jcv (jac n) (c.noteF a) a).e=0:=he
   have hel:=jiE (jat n) (c.noteF a) a
   obtain ⟨_,q1⟩:=jeg (by decide) he
   have q1:jcv (jac n) (c.noteF a) a=jhs (jac n) (c.noteF a) a:=q1
   have heC:=he
   rw [q1] at he
   obtain ⟨q3,q2⟩:=jeg (by decide) he
   have q2:jhs (jac n) (c.noteF a) a=je1 (jac n) (c.noteF a) a:=q2
   rw [q2] at he
   unfold je1 at he
   rw [hk0] at he
   obtain ⟨b1,b2⟩:=jbc he
   obtain ⟨r1,r2,r3,r4,r5⟩:=jpg ht h' hc' hv' hs' (by omega) hl hxr hch b2
   have hty:(jcv (jac n) (c.noteF a) a).types=(jac n (c.noteF a) x).1.types:=by rw [q1,q2];unfold je1;rw [hk0];exact jaO _ _ _
   have hslt:(jcv (jac n) (c.noteF a) a).slots=(jac n (c.noteF a) x).1.slots:=by rw [q1,q2];unfold je1;rw [hk0];exact (jb6 _ _ _).1
   have hA1:Agree p (jac n (c.noteF a) x).1 lo a.toNat:=hA.sub (Nat.le_refl _) (by omega) fun i g1 g2=>⟨by show nth (jcv (jac n) (c.noteF a) a).types i=_;rw [hty],by show nth (List.set _ _ _) i=_;rw [jc3,if_neg (by omega),hslt],by show nth (jcv (jac n) (c.noteF a) a).fns i=_;rw [q1,q2];unfold je1;rw [hk0,joH]⟩
   have hAx:=(hA1 x.toNat r3 r4).1
   have hslC:a.toNat < (jcv (jac n) (c.noteF a) a).slots.length:=by rw [hel.slots];exact hsl
   have hAs:nth p.slots a.toNat=(jcv (jac n) (c.noteF a) a).size:=by
    rw [(hA a.toNat hlo (by omega)).2.1]
    show nth (List.set _ _ _) _=_
    rw [jc3,if_pos ⟨rfl,hslC⟩]
   have hl0:nth (jag p a).l 0=x:=by rw [hnd,hl];rfl
   have hvars:(je1 (jac n) (c.noteF a) a).vars=c.vars:=(jkK (jat n) (c.noteF a) a).vars
   refine ⟨fun m=>⟨hfn,fun _ v hv1=>⟨?_,?_⟩,fun k'=>?_,fun k'=>?_,fun _ k'=>?_,fun k'=>?_,fun k'=>?_⟩,?_⟩
   ·have:=jqC q3 v (by rw [hvars];exact hv1)
    rw [hnd,← hnode];exact this
   ·have:=hs.2 v hv1
    have hz:(jcv (jac n) (c.noteF a) a).size=c.size:=hel.size
    rw [hAs,hz];omega
   ·rw [hnd] at k';omega
   ·rw [hnd] at k';omega
   ·rw [hl0] at k' ⊢
    rw [ndp] at k'
    exact r5 hp k' hA1
   ·rw [hnd] at k';omega
   ·rw [hnd] at k';omega
   ·show (jcv (jac n) (c.noteF a) a).vars++[(⟨((c.noteF a).node a).name,(jac n (c.noteF a) ((c.noteF a).kid a 0)).2,(jcv (jac n) (c.noteF a) a).size⟩:GVar)]=jk3 p a c.vars
    unfold jk3 jmE
    rw [if_pos (by rw [hnd];exact k),hk0,← hAs,hl0,hAx,r2,hnode,hnd,q1,q2,hvars]
  ·have e:jab (n+1) c a=(jac n ((c.noteF a).named a).1 ((c.noteF a).kid a 0)).1.must (decide (((c.noteF a).named a).2=(jac n ((c.noteF a).named a).1 ((c.noteF a).kid a 0)).2)) a:=by unfold jab;simp only;rw [hnode,k];rfl
   obtain ⟨x,hl,hxr⟩:=sh.right (by omega)
   have hk0:(c.noteF a).kid a 0=x:=by rw [kd,hl];rfl
   rw [e] at he hA ⊢
   rw [hk0] at he hA ⊢
   obtain ⟨b1,b2⟩:=jbc he
   have en:=jbQ (c.noteF a) a
   obtain ⟨r1,r2,r3,r4,r5⟩:=jpg ht (h'.ev en) (en.tree.trans hc') (hv'.ev en) (hs'.ev en) (by omega) hl hxr hch b2
   have hA1:Agree p (jac n ((c.noteF a).named a).1 x).1 lo (a.toNat+1):=hA.sub (Nat.le_refl _) (Nat.le_refl _) fun i _ _=>⟨by rw [jaO],by rw [(jb6 _ _ _).1],by rw [joH]⟩
   have hAx:=(hA1 x.toNat r3 (by omega)).1
   obtain ⟨v,v1,v2,v3,v4⟩:=jq9 (c':=(jac n ((c.noteF a).named a).1 x).1) hsl ((jat n _ x).e0 b2) (hA1 a.toNat hlo (by omega)).2.1 (r1.out a.toNat (.inr (Nat.le_refl _))).2.1
   have hl0:nth (jag p a).l 0=x:=by rw [hnd,hl];rfl
   refine ⟨fun m=>⟨hfn,fun k'=>?_,fun _=>⟨v,v1,?_,v3,?_⟩,fun k'=>?_,fun _ k'=>?_,fun k'=>?_,fun k'=>?_⟩,?_⟩
   ·rw [hnd] at k';omega
   ·rw [v2,hnode,hnd]
   ·rw [v4,hl0,hAx,r2];exact of_decide_eq_true b1
   ·rw [hnd] at k';omega
   ·rw [hl0] at k' ⊢
    rw [ndp] at k'
    exact r5 hp k' (hA1.sub (Nat.le_refl _) (by omega) fun _ _ _=>⟨rfl,rfl,rfl⟩)
   ·rw [hnd] at k';omega
   ·rw [hnd] at k';omega
   ·rw [jfG (by rw [hnd];omega)]
    exact ((((ev.trans en).trans (jat n _ x)).trans (jbm _ _ _)).vars)
  ·have e:jab (n+1) c a=(jac n (jac n ((c.noteF a).named a).1 ((c.noteF a).kid a 0)).1 ((c.noteF a).kid a 1)).1.must (decide (((c.noteF a).named a).2=4) && decide ((jac n ((c.noteF a).named a).1 ((c.noteF a).kid a 0)).2=1) && decide ((jac n (jac n ((c.noteF a).named a).1 ((c.noteF a).kid a 0)).1 ((c.noteF a).kid a 1)).2=1)) a:=by unfold jab;simp only;rw [hnode,k];rfl
   obtain ⟨x,y,hl,hxe,hye⟩:=sh.two (by omega)
   have hk0:(c.noteF a).kid a 0=x:=by rw [kd,hl];rfl
   have hk1:(c.noteF a).kid a 1=y:=by rw [kd,hl];rfl
   rw [e] at he hA ⊢
   rw [hk0,hk1] at he hA ⊢
   obtain ⟨b1,b2⟩:=jbc he
   have en:=jbQ (c.noteF a) a
   have r1:=juz ht (h'.ev en) (en.tree.trans hc') (hs'.ev en) (by omega) hl hxe hye hch b2
   obtain ⟨v,v1,v2,v3,v4⟩:=jq9 (p:=p) (c':=(jac n (jac n ((c.noteF a).named a).1 x).1 y).1) hsl ((jat n _ x).e0 ((jat n _ y).e0 b2)) (by rw [(hA a.toNat hlo (by omega)).2.1,(jb6 _ _ _).1]) (r1.sw a.toNat (.inr (Nat.le_refl _)))
   rw [Bool.and_eq_true,Bool.and_eq_true] at b1
   refine ⟨fun m=>⟨hfn,fun k'=>?_,fun k'=>?_,fun _=>⟨v,v1,?_,v3,?_⟩,fun k'=>?_,fun k'=>?_,fun k'=>?_⟩,?_⟩
   ·rw [hnd] at k';omega
   ·rw [hnd] at k';omega
   ·rw [v2,hnode,hnd]
   ·rw [v4];exact of_decide_eq_true b1.1.1
   ·rw [hnd] at k';omega
   ·rw [hnd] at k';omega
   ·rw [hnd] at k';omega
   ·rw [jfG (by rw [hnd];omega)]
    exact (((((ev.trans en).trans (jat n _ x)).trans (jat n _ y)).trans (jbm _ _ _)).vars)
  ·have e:jab (n+1) c a=(jac n (c.noteF a) ((c.noteF a).kid a 0)).1:=by unfold jab;simp only;rw [hnode,k];rfl
   obtain ⟨x,hl,hxk⟩:=sh.do_ k
   have hk0:(c.noteF a).kid a 0=x:=by rw [kd,hl];rfl
   rw [e] at he hA ⊢
   rw [hk0] at he hA ⊢
   obtain ⟨r1,r2,r3,r4,r5⟩:=jpg ht h' hc' hv' hs' (by omega) hl (by rw [hxk];unfold isR;omega) hch he
   have hl0:nth (jag p a).l 0=x:=by rw [hnd,hl];rfl
   refine ⟨fun m=>⟨hfn,fun k'=>?_,fun k'=>?_,fun k'=>?_,fun _ k'=>?_,fun k'=>?_,fun k'=>?_⟩,?_⟩
   ·rw [hnd] at k';omega
   ·rw [hnd] at k';omega
   ·rw [hnd] at k';omega
   ·rw [hl0] at k' ⊢
    rw [ndp] at k'
    exact r5 hp k' (hA.sub (Nat.le_refl _) (by omega) fun _ _ _=>⟨rfl,rfl,rfl⟩)
   ·rw [hnd] at k';omega
   ·rw [hnd] at k';omega
   ·rw [jfG (by rw [hnd];omega)]
    exact (ev.trans (jat n _ x)).vars
  ·have e:jab (n+1) c a=(jac n (c.noteF a) ((c.noteF a).kid a 0)).1.must (!decide ((jac n (c.noteF a) ((c.noteF a).kid a 0)).2=4)) a:=by unfold jab;simp only;rw [hnode,k];rfl
   rw [e]
   refine ⟨fun m=>⟨hfn,fun k'=>?_,fun k'=>?_,fun k'=>?_,fun k'=>?_,fun k'=>?_,fun k'=>?_⟩,?_⟩
   ·rw [hnd] at k';omega
   ·rw [hnd] at k';omega
   ·rw [hnd] at k';omega
   ·rw [hnd] at k';omega
   ·rw [hnd] at k';omega
   ·rw [hnd] at k';omega
   ·rw [jfG (by rw [hnd];omega)]
    exact ((ev.trans (jat n _ _)).trans (jbm _ _ _)).vars
  ·have e:jab (n+1) c a=jbd (jac n) (c.noteF a) a:=by unfold jab;simp only;rw [hnode,k];rfl
   rw [e] at he hA ⊢
   unfold jbd at he hA ⊢
   rw [hnode] at he hA ⊢
   simp only at he hA ⊢
   split at he
   ·exact (jbJ (by decide) he).elim
   rename_i hf
   rw [if_neg hf] at hA ⊢
   have hft:(nth (c.noteF a).tree.fns (c.noteF a).fn.toNat).ret=(nth p.tree.fns j).ret:=by
    show (nth c.tree.fns c.fn.toNat).ret=_
    rw [hc,hj,hp];rfl
   rw [hft] at hf he hA ⊢
   rcases sh.ret k with hl | ⟨x,hl,hxe⟩
   ·rw [hl] at hf ⊢
    rw [if_neg (by decide)]
    have hz:(nth p.tree.fns j).ret=0:=by
     have hf:=Classical.not_not.1 hf
     rw [show decide (([]:List Int).length=1)=false from rfl] at hf
     exact Classical.byContradiction fun hne=>by rw [decide_eq_false hne] at hf;cases hf
    refine ⟨fun m=>⟨hfn,fun k'=>?_,fun k'=>?_,fun k'=>?_,fun k'=>?_,fun _=>⟨fun k'=>?_,fun _=>hz⟩,fun k'=>?_⟩,?_⟩
    ·rw [hnd] at k';omega
    ·rw [hnd] at k';omega
    ·rw [hnd] at k';omega
    ·rw [hnd] at k';omega
    ·rw [hnd,hl] at k';cases k'
    ·rw [hnd] at k';omega
    ·rw [jfG (by rw [hnd];omega)];exact ev.vars
   ·have hk0:(c.noteF a).kid a 0=x:=by rw [kd,hl];rfl
    have hl1:(nth t.nodes a.toNat).l.length=1:=by rw [hl];rfl
    rw [if_pos hl1] at he hA ⊢
    rw [hk0] at he hA ⊢
    obtain ⟨b1,b2⟩:=jbc he
    obtain ⟨r1,r2,r3,r4,r5⟩:=jpg ht h' hc' hv' hs' (by omega) hl (.inl hxe) hch b2
    have hl0:nth (jag p a).l 0=x:=by rw [hnd,hl];rfl
    refine ⟨fun m=>⟨hfn,fun k'=>?_,fun k'=>?_,fun k'=>?_,fun k'=>?_,fun _=>⟨fun _=>?_,fun k'=>?_⟩,fun k'=>?_⟩,?_⟩
    ·rw [hnd] at k';omega
    ·rw [hnd] at k';omega
    ·rw [hnd] at k';omega
    ·rw [hnd] at k';omega
    ·rw [hl0,(hA x.toNat r3 (by omega)).1,jaO,r2];exact of_decide_eq_true b1
    ·rw [hnd,hl] at k';exact (k' rfl).elim
    ·rw [hnd] at k';omega
    ·rw [jfG (by rw [hnd];omega)]
     exact ((ev.trans (jat n _ x)).trans (jbm _ _ _)).vars
  ·have e:jab (n+1) c a=jaz (jaJ (jab n)) ((jac n (c.noteF a) ((c.noteF a).kid a 0)).1.must (decide ((jac n (c.noteF a) ((c.noteF a).kid a 0)).2=2)) a) (((c.noteF a).node a).l.drop 1):=by
    unfold jab;simp only;rw [hnode];rcases k with k | k<;>rw [k]<;>rfl
   have hsh:∃ x L,(nth t.nodes a.toNat).l=x::L∧isE (jaj t.nodes x)∧∀ y∈L,jaj t.nodes y=18:=by
    rcases k with k | k
    ·obtain ⟨x,y,hx,hy,hl | ⟨z,hl,hz⟩⟩:=sh.if_ k
     ·exact ⟨x,[y],hl,hx,fun u hu=>by rw [List.mem_singleton.1 hu];exact hy⟩
     ·exact ⟨x,[y,z],hl,hx,fun u hu=>by
       rcases List.mem_cons.1 hu with rfl | hu
       ·exact hy
       ·rw [List.mem_singleton.1 hu];exact hz⟩
    ·obtain ⟨x,y,hl,hx,hy⟩:=sh.while_ k
     exact ⟨x,[y],hl,hx,fun u hu=>by rw [List.mem_singleton.1 hu];exact hy⟩
   obtain ⟨x,L,hl,hxe,hL⟩:=hsh
   have hk0:(c.noteF a).kid a 0=x:=by rw [kd,hl];rfl
   rw [e] at he hA ⊢
   rw [hnode,hl,hk0] at he hA ⊢
   have he:(jaz (jaJ (jab n)) ((jac n (c.noteF a) x).1.must (decide ((jac n (c.noteF a) x).2=2)) a) L).e=0:=he
   have hA:Agree p (jaz (jaJ (jab n)) ((jac n (c.noteF a) x).1.must (decide ((jac n (c.noteF a) x).2=2)) a) L) lo (a.toNat+1):=hA
   have ex:=(jat n (c.noteF a) x).trans (jbm _ (decide ((jac n (c.noteF a) x).2=2)) a)
   have hin:=h'.ev ex
   rw [hl] at hch
   obtain ⟨c1,c2,c3,c4,c5,c6⟩:=jcI hch
   obtain ⟨w1,w2⟩:=jmK ht ih L _ (x.toNat+1) a.toNat hin (ex.tree.trans hc') (hv'.ev ex) (hs'.ev ex) (by omega) (by omega) hL c6 he p hp (hA.sub (by omega) (by omega) fun _ _ _=>⟨rfl,rfl,rfl⟩) j (ex.fn.trans hj)
   rw [ex.vars] at w1 w2
   refine ⟨fun m=>⟨hfn,fun k'=>?_,fun k'=>?_,fun k'=>?_,fun k'=>?_,fun k'=>?_,fun _ b hb=>?_⟩,?_⟩
   ·rw [hnd] at k';omega
   ·rw [hnd] at k';omega
   ·rw [hnd] at k';omega
   ·rw [hnd] at k';omega
   ·rw [hnd] at k';omega
   ·rw [hnd,hl] at hb;exact w1 b hb m
   ·rw [jfG (by rw [hnd];omega)];exact w2
theorem jmL (body:Int):∀ (ps:List GParam) (c:Ck) (i:Int),(∀ v∈c.vars,v.slot < i)→jim c.vars→(jav body c ps i).e=0→(jav body c ps i).vars=c.vars++jft ps i∧jim (jav body c ps i).vars∧c.e=0
 | [],c,i,hs,hv,he=>by unfold jav at he ⊢;exact ⟨by simp [jft],hv,he⟩
 | p::ps,c,i,hs,hv,he=>by
  unfold jav at he ⊢
  simp only at he ⊢
  have fin:∀ c1:Ck,c1.vars=c.vars→(jav body (jdr c1 ⟨p.name,p.ty,i⟩) ps (i+1)).e=0→((c1.e=0)→∀ v∈c.vars,v.name≠p.name)→(jav body (jdr c1 ⟨p.name,p.ty,i⟩) ps (i+1)).vars=c.vars++jft (p::ps) i∧jim (jav body (jdr c1 ⟨p.name,p.ty,i⟩) ps (i+1)).vars∧c1.e=0:=fun c1 e1 he1 hn=>by
   have hz:c1.e=0:=by
    have key:∀ (ps:List GParam) (c:Ck) (i:Int),(jav body c ps i).e=0→c.e=0:=fun ps=>by
     induction ps with
     | nil=>intro c i h;unfold jav at h;exact h
     | cons q ps ih=>
      intro c i h
      unfold jav at h
      simp only at h
      have h:=ih _ _ h
      have h:(if 0≤c.find q.name then c.fails 41 body else c).e=0:=h
      split at h
      ·exact (jbJ (by decide) h).elim
      ·exact h
    exact key ps (jdr c1 ⟨p.name,p.ty,i⟩) _ he1
   have hv1:(jdr c1 ⟨p.name,p.ty,i⟩).vars=c.vars++[⟨p.name,p.ty,i⟩]:=by show c1.vars++_=_;rw [e1]
   obtain ⟨g1,g2,_⟩:=jmL body ps (jdr c1 ⟨p.name,p.ty,i⟩) (i+1) (fun v hv=>by
    rw [hv1] at hv
    rcases List.mem_append.1 hv with hv | hv
    ·have:=hs v hv;omega
    ·rw [List.mem_singleton.1 hv];show i < i+1;omega) (by
     rw [hv1]
     refine List.pairwise_append.2 ⟨hv,by simp,fun v hv w hw=>?_⟩
     rw [List.mem_singleton.1 hw]
     refine ⟨hn hz v hv,?_⟩
     have:=hs v hv
     show v.slot≠i
     omega) he1
   refine ⟨?_,g2,hz⟩
   rw [g1,hv1,List.append_assoc]
   rfl
  split at he
  ·exfalso
   obtain ⟨_,_,h3⟩:=fin (c.fails 41 body) (jbP c (by decide) body).vars he (fun h=>(jbJ (by decide) h).elim)
   exact jbJ (by decide) h3
  ·rename_i hf
   rw [if_neg hf]
   exact fin c rfl he fun _=>jqC hf
theorem jnM {t:GTree} (ht:TreeOk t) {c:Ck} (h:CkIn0 c) (hc:c.tree=t) {k:Nat} (hk:k < t.fns.length) (hsz:c.size_.length < 6) {lo:Nat} (hch:Chain t.nodes lo (nth t.nodes (nth t.fns k).body.toNat).l (nth t.fns k).body.toNat) (he:(jar c k).e=0) {p:GProg} (hp:p.tree=t) (hA:Agree p (jar c k) lo ((nth t.fns k).body.toNat+1)):FnWt p k:=by
 have hk':k < c.tree.fns.length:=by rw [hc];exact hk
 have hp3:=h.tree.fn _ (jaw hk')
 have hi0:CkIn { c with fn:=(k:Int),vars:=[],more:=[],size:=0 }:=⟨h.tree,h.types,h.slots,h.fns,by show c.size_.length≤6;omega,by show (0:Int)≤k;omega,by show (k:Int) < (c.tree.fns.length:Int);omega,by show ((0:Nat):Int)≤0;omega,by show (0:Int)≤25;omega,fun _=>by show (0:Int)≤24;omega⟩
 obtain ⟨a,b,d⟩:=jeC (nth c.tree.fns k).body (nth c.tree.fns k).params _ 0 hi0 (by show (0:Int)+_≤20;omega)
 obtain ⟨a',b',d'⟩:=jjh (nth c.tree.fns k).body (nth c.tree.fns k).params { c with fn:=(k:Int),vars:=[],more:=[],size:=0 } 0 ⟨by show (0:Int)≤0;omega,fun v hv=>by simp at hv⟩ rfl
 obtain ⟨a2,b2,d2⟩:=jju (t:=t) (nth c.tree.fns k).body (nth c.tree.fns k).params { c with fn:=(k:Int),vars:=[],more:=[],size:=0 } 0 (fun v hv=>by simp at hv) hp3.1.ps
 have w:=jmL (nth c.tree.fns k).body (nth c.tree.fns k).params { c with fn:=(k:Int),vars:=[],more:=[],size:=0 } 0 (fun v hv=>by simp at hv) List.Pairwise.nil
 have hbN:=jcU ht hk
 have hbk:=ht.body _ (jaw hk)
 have hfn:(jav (nth c.tree.fns k).body { c with fn:=(k:Int),vars:=[],more:=[],size:=0 } (nth c.tree.fns k).params 0).fn=(k:Int):=by
  have key:∀ (ps:List GParam) (c:Ck) (i:Int),(jav (nth t.fns k).body c ps i).fn=c.fn:=fun ps=>by
   induction ps with
   | nil=>intro c i;rfl
   | cons q ps ih=>
    intro c i
    unfold jav
    simp only
    rw [ih]
    show (if 0≤c.find q.name then c.fails 41 _ else c).fn=c.fn
    split
    ·exact (jbP c (by decide) _).fn
    ·rfl
  rw [hc];exact key _ _ _
 unfold jar at he hA
 simp only at he hA
 rw [hc] at he hA
 rw [hc] at a b d a' b' d' a2 b2 d2 w hfn
 split at he
 ·rename_i e1
  rw [if_pos e1] at hA
  obtain ⟨w1,w2,_⟩:=w e1
  have w1:_=jft (nth t.fns k).params 0:=w1
  refine ⟨?_,fun m=>?_⟩
  ·rw [hp,← w1];exact w2
  ·have:=jpf ht (jr7 ht t.nodes.length) a (b.trans (by rfl)) a2 a' hbN.1 hbN.2 (by have:=hbN.2;have:=hbN.1;omega) hbk hch he hp (hA.sub (Nat.le_refl _) (Nat.le_refl _) fun _ _ _=>⟨rfl,rfl,rfl⟩) hfn m
   rw [w1] at this
   rw [hp]
   exact this
 ·rename_i e1
  exact (e1 he).elim
theorem jhF {t:GTree} (ht:TreeOk t):∀ (n i lo:Nat) (c:Ck),CkIn0 c→c.tree=t→c.size_.length=i→i+n=t.fns.length→Chain t.nodes lo ((t.fns.drop i).map (·.body)) t.nodes.length→(jan c i n).e=0→∀ q,q < lo→nth (jan c i n).slots q=nth c.slots q∧nth (jan c i n).fns q=nth c.fns q
 | 0,i,lo,c,h,hc,hs,hi,hch,he=>fun q hq=>⟨rfl,rfl⟩
 | n+1,i,lo,c,h,hc,hs,hi,hch,he=>by
  have h6:=ht.fns
  unfold jan at he ⊢
  by_cases e0:c.e=0
  ·rw [if_pos e0] at he ⊢
   have hk:i < t.fns.length:=by omega
   rw [jbj hk] at hch
   obtain ⟨c1,c2,c3,c4,c5,c6⟩:=jcI (a:=(nth t.fns i).body) hch
   obtain ⟨f1,f2,f3⟩:=jdj h (by rw [hc];exact hk) (by omega:c.size_.length < 6)
   have e1:(jar c i).e=0:=by
    cases n with
    | zero=>unfold jan at he;exact he
    | succ m=>
     unfold jan at he
     split at he
     ·assumption
     ·exact he
   have r:=(jjg ht h hc hk (by omega) c5 e1).1
   have r':=jna ht hc hk c5
   intro q hq
   have ih:=jhF ht n (i+1) ((nth t.fns i).body.toNat+1) (jar c i) f1 (f2.trans hc) (by omega) (by omega) c6 he q (by omega)
   exact ⟨ih.1.trans (r q (.inl hq)),ih.2.trans (r' q (.inl hq))⟩
  ·rw [if_neg e0] at he
   exact (e0 he).elim
theorem jhI {t:GTree} (ht:TreeOk t):∀ (n i lo:Nat) (c:Ck),CkIn0 c→c.tree=t→c.size_.length=i→i+n=t.fns.length→Chain t.nodes lo ((t.fns.drop i).map (·.body)) t.nodes.length→(jan c i n).e=0→
  ∀ p:GProg,p.tree=t→Agree p (jan c i n) lo t.nodes.length→∀ j,i≤j→j < t.fns.length→FnWt p j
 | 0,i,lo,c,h,hc,hs,hi,hch,he,p,hp,hA=>fun j h1 h2=>by omega
 | n+1,i,lo,c,h,hc,hs,hi,hch,he,p,hp,hA=>by
  have h6:=ht.fns
  unfold jan at he hA
  by_cases e0:c.e=0
  ·rw [if_pos e0] at he hA
   have hk:i < t.fns.length:=by omega
   rw [jbj hk] at hch
   obtain ⟨c1,c2,c3,c4,c5,c6⟩:=jcI (a:=(nth t.fns i).body) hch
   obtain ⟨f1,f2,f3⟩:=jdj h (by rw [hc];exact hk) (by omega:c.size_.length < 6)
   have e1:(jar c i).e=0:=by
    cases n with
    | zero=>unfold jan at he;exact he
    | succ m=>
     unfold jan at he
     split at he
     ·assumption
     ·exact he
   obtain ⟨r2,q1,q2,q3⟩:=jc2 ht n (i+1) ((nth t.fns i).body.toNat+1) (jar c i) f1 (f2.trans hc) (by omega) (by omega) c6 he
   have r3:=jhF ht n (i+1) ((nth t.fns i).body.toNat+1) (jar c i) f1 (f2.trans hc) (by omega) (by omega) c6 he
   intro j h1 h2
   by_cases hj:j=i
   ·subst hj
    exact jnM ht h hc hk (by omega) c5 e1 hp (hA.sub (Nat.le_refl _) (by omega) fun q g1 g2=>⟨r2.tw q (.inl (by omega)),(r3 q (by omega)).1,(r3 q (by omega)).2⟩)
   ·exact jhI ht n (i+1) ((nth t.fns i).body.toNat+1) (jar c i) f1 (f2.trans hc) (by omega) (by omega) c6 he p hp (hA.sub (by omega) (Nat.le_refl _) fun _ _ _=>⟨rfl,rfl,rfl⟩) j (by omega) h2
  ·rw [if_neg e0] at he
   exact (e0 he).elim
theorem jsH {t:GTree} (ht:TreeOk t) (he:(jaP t).2.2=0):∀ j,j < (jaP t).1.tree.fns.length→FnWt (jaP t).1 j:=by
 unfold jaP at he ⊢
 split at he
 ·rename_i h;exact (h he).elim
 rename_i h
 rw [if_neg h]
 have h:(jcz t).e=0:=by omega
 obtain ⟨i1,i2,i3⟩:=jkX ht
 obtain ⟨_,q1,_⟩:=jc2 ht t.fns.length 0 0 (jbX (ck0 t)) i1 i2 (by rw [i3];rfl) (by omega) (by rw [List.drop_zero];exact ht.chain) h
 have he:(jcz t).tree=t:=q1
 intro j hj
 have hj:j < t.fns.length:=by rw [← he];exact hj
 exact jhI ht t.fns.length 0 0 (jbX (ck0 t)) i1 i2 (by rw [i3];rfl) (by omega) (by rw [List.drop_zero];exact ht.chain) h (jcz t).prog he (fun _ _ _=>⟨rfl,rfl,rfl⟩) j (Nat.zero_le _) hj
theorem jrH {s:ByteArray} (he:(jaX s).2.2=0):∀ j,j < (jaX s).1.tree.fns.length→FnWt (jaX s).1 j:=by
 unfold jaX at he ⊢
 split at he
 ·rename_i h;exact (h he).elim
 rename_i h
 rw [if_neg h]
 have h:(jaL s).2.2=0:=by omega
 simp only at he ⊢
 split at he
 ·cases he
 rename_i h2
 split at he
 ·rename_i h3;exact (h3 he).elim
 rename_i h3
 rw [if_neg h2,if_neg h3]
 exact jsH (je4 h) (by omega)
end Go.Proofs.YtfkgcobaheegbaaGreatDoor
namespace Go.Gd
open Go
def jmM (p:GProg):List GVar→List GPlace→List GVar
 | vars,[]=>vars
 | vars,x::l=>jmM p (jdY p ((jax p x.block).take x.at_.toNat) vars) l
theorem jey (p:GProg):∀ (l m:List GPlace) (vars:List GVar),jmM p vars (l++m)=jmM p (jmM p vars l) m
 | [],_,_=>rfl
 | x::l,m,vars=>jey p l m _
def jqi (p:GProg) (x:GPlace) (b:Int):Prop:=∃ i:Nat,((i:Int)=x.at_∨(i:Int)+1=x.at_)∧i < (jax p x.block).length∧((jag p (nth (jax p x.block) i)).kind=15∨(jag p (nth (jax p x.block) i)).kind=16)∧b∈(jag p (nth (jax p x.block) i)).l.drop 1
def jhJ (p:GProg):(Int→Prop)→List GPlace→Prop
 | _,[]=>True
 | q,x::l=>q x.block∧jhJ p (jqi p x) l
def jvR (p:GProg):(Int→Prop)→List GPlace→Int→Prop
 | q,[]=>q
 | _,x::l=>jvR p (jqi p x) l
theorem jek (p:GProg):∀ (l m:List GPlace) (q:Int→Prop),jhJ p q (l++m)↔jhJ p q l∧jhJ p (jvR p q l) m
 | [],m,q=>⟨fun h=>⟨trivial,h⟩,fun h=>h.2⟩
 | x::l,m,q=>by
  show (_∧jhJ p (jqi p x) (l++m))↔(_∧_)∧_
  rw [jek p l m (jqi p x)]
  exact ⟨fun ⟨a,b,c⟩=>⟨⟨a,b⟩,c⟩,fun ⟨⟨a,b⟩,c⟩=>⟨a,b,c⟩⟩
theorem jkc (p:GProg):∀ (l:List GPlace) (x:GPlace) (q:Int→Prop),jvR p q (l++[x])=jqi p x
 | [],_,_=>rfl
 | y::l,x,q=>jkc p l x (jqi p y)
theorem jh6 {p:GProg} {a:Int} {vars:List GVar} (h:(jag p a).kind≠10):jk3 p a vars=vars:=if_neg h
theorem jij {α:Type} [Inhabited α] (l:List α) (i:Nat) (h:i < l.length):l.take (i+1)=l.take i++[nth l i]:=by
 rw [List.take_succ,List.getElem?_eq_getElem h,ja3 h];rfl
theorem jou {p:GProg} {x:GPlace} {i:Nat} (h:(i:Int)=x.at_∨(i:Int)+1=x.at_) (hi:i < (jax p x.block).length) (hk:(jag p (nth (jax p x.block) i)).kind=15∨(jag p (nth (jax p x.block) i)).kind=16) (vars:List GVar):jdY p ((jax p x.block).take x.at_.toNat) vars=jdY p ((jax p x.block).take i) vars:=by
 rcases h with h | h
 ·rw [← h,Int.toNat_natCast]
 ·rw [← h,show ((i:Int)+1).toNat=i+1 by omega,jij _ _ hi,jiW]
  exact jh6 (by omega)
theorem jvK {s:List GVar→Int→Prop} {p:GProg}:∀ (L:List Int) (vars:List GVar),LiW s p vars L→∀ i,i < L.length→s (jdY p (L.take i) vars) (nth L i)
 | [],_,_,i,hi=>by simp at hi
 | x::L,vars,h,0,_=>h.1
 | x::L,vars,h,i+1,hi=>jvK L _ h.2 i (by simpa using hi)
theorem jtW {p:GProg} {j:Nat} {vars:List GVar} {x:GPlace} {b:Int} (h:∀ m,BlW p j m vars x.block) (k:jqi p x b):∀ m,BlW p j m (jdY p ((jax p x.block).take x.at_.toNat) vars) b:=fun m=>by
 obtain ⟨i,h1,h2,h3,h4⟩:=k
 have:=jvK _ _ (h (m+1)) i h2
 rw [jou h1 h2 h3]
 exact this.kids h3 b h4
theorem jx9 {p:GProg} {j:Nat}:∀ (l:List GPlace) (q:Int→Prop) (vars:List GVar) (x:GPlace),jhJ p q (l++[x])→(∀ b,q b→∀ m,BlW p j m vars b)→∀ m,BlW p j m (jmM p vars l) x.block
 | [],q,vars,x,h,hq=>hq _ h.1
 | y::l,q,vars,x,h,hq=>jx9 l (jqi p y) _ x h.2 fun b hb=>jtW (hq _ h.1) hb
theorem jvn {p:GProg} {x:Int} {vars:List GVar} (hv:jim vars) (h:(jag p x).kind=10→∀ v∈vars,v.name≠(jag p x).name∧v.slot≠nth p.slots x.toNat):jim (jk3 p x vars):=by
 unfold jk3
 split
 ·rename_i k
  refine List.pairwise_append.2 ⟨hv,by simp,fun v hv w hw=>?_⟩
  rw [List.mem_singleton.1 hw]
  exact h k v hv
 ·exact hv
theorem jn6 {p:GProg} {j m:Nat}:∀ (L:List Int) (vars:List GVar),LiW (StW p j (BlW p j m)) p vars L→jim vars→∀ i,jim (jdY p (L.take i) vars)
 | [],vars,_,hv,i=>by rw [List.take_nil];exact hv
 | x::L,vars,h,hv,0=>hv
 | x::L,vars,h,hv,i+1=>jn6 L _ h.2 (jvn hv h.1.let_) i
theorem jt9 {p:GProg} {j:Nat}:∀ (l:List GPlace) (q:Int→Prop) (vars:List GVar),jhJ p q l→(∀ b,q b→∀ m,BlW p j m vars b)→jim vars→jim (jmM p vars l)
 | [],q,vars,_,_,hv=>hv
 | x::l,q,vars,h,hq,hv=>jt9 l (jqi p x) _ h.2 (fun b hb=>jtW (hq _ h.1) hb) (jn6 (m:=0) _ _ (hq _ h.1 1) hv _)
theorem js9 {p:GProg} {x:Int} {vars:List GVar} {v:GVar} (h:v∈vars):v∈jk3 p x vars:=by
 unfold jk3;split
 ·exact List.mem_append_left _ h
 ·exact h
theorem jov {p:GProg} {v:GVar}:∀ (L:List Int) (vars:List GVar),v∈vars→v∈jdY p L vars
 | [],_,h=>h
 | x::L,vars,h=>jov L _ (js9 h)
-- where a node is found
theorem jdR {t:List GNode} {lo hi:Nat} {L:List Int} (h:Chain t lo L hi):∀ a∈L,∃ lo',lo≤lo'∧Chain t lo' (nth t a.toNat).l a.toNat∧a.toNat < hi∧0≤a:=by
 induction h with
 | nil=>intro a ha;cases ha
 | @cons lo c hi L hc h1 h2 i1 i2=>
  intro a ha
  have:=h1.le
  have:=h2.le
  rcases List.mem_cons.1 ha with rfl | ha
  ·exact ⟨lo,Nat.le_refl _,by simpa using h1,by simp;omega,by omega⟩
  ·obtain ⟨lo',g1,g2⟩:=i2 a ha
   exact ⟨lo',by omega,g2⟩
theorem jfA {t:List GNode}:∀ {A B:List Int} {lo hi:Nat},Chain t lo (A++B) hi→∃ mid,Chain t lo A mid∧Chain t mid B hi
 | [],B,lo,hi,h=>⟨lo,.nil lo,h⟩
 | a::A,B,lo,hi,h=>by
  have h:Chain t lo (a::(A++B)) hi:=h
  cases h with
  | cons hc h1 h2=>
   obtain ⟨mid,g1,g2⟩:=jfA h2
   exact ⟨mid,.cons hc h1 g1,g2⟩
theorem jiT {w:Int→List GVar→Option (List GVar)} {vars:List GVar}:∀ (l:List Int),(∀ b∈l,w b vars=none)→jgQ w vars l=none
 | [],_=>rfl
 | b::l,h=>by
  unfold jgQ
  rw [h b (by simp),jiT l fun c hc=>h c (by simp [hc])];rfl
theorem jrB {p:GProg} {node:Int} {n:Nat} (ih:∀ (b:Int) (lo:Nat) (vars:List GVar),Chain p.tree.nodes lo (nth p.tree.nodes b.toNat).l b.toNat→(node.toNat < lo∨b.toNat≤node.toNat)→jbp p node n b vars=none) {lo hi:Nat} {L:List Int} (h:Chain p.tree.nodes lo L hi) (hn:node.toNat < lo∨hi≤node.toNat):∀ vars,jd5 (jbp p node n) p node L vars=none:=by
 induction h with
 | nil=>intro vars;rfl
 | @cons lo c hi L hc h1 h2 i1 i2=>
  intro vars
  have l1:=h1.le
  have l2:=h2.le
  unfold jd5
  rw [if_neg (fun e=>by subst e;simp at hn;omega),i2 (by omega)]
  split
  ·rw [jiT _ fun b hb=>?_];rfl
   obtain ⟨lo',g1,g2,g3,_⟩:=jdR h1 b (by
    have:=List.mem_of_mem_drop hb
    simpa [jag] using this)
   exact ih b lo' _ g2 (by omega)
  ·rfl
theorem jfP {p:GProg} {node:Int}:∀ (n:Nat) (b:Int) (lo:Nat) (vars:List GVar),Chain p.tree.nodes lo (nth p.tree.nodes b.toNat).l b.toNat→(node.toNat < lo∨b.toNat≤node.toNat)→jbp p node n b vars=none
 | 0,_,_,_,_,_=>rfl
 | n+1,b,lo,vars,h,hn=>jrB (jfP n) h hn vars
theorem jmt {p:GProg} {node:Int} {n:Nat} {lo mid:Nat} {A:List Int} (h:Chain p.tree.nodes lo A mid) (hn:mid≤node.toNat) (B:List Int):∀ vars,jd5 (jbp p node n) p node (A++B) vars=jd5 (jbp p node n) p node B (jdY p A vars):=by
 induction h with
 | nil=>intro vars;rfl
 | @cons lo c hi L hc h1 h2 i1 i2=>
  intro vars
  have l1:=h1.le
  have l2:=h2.le
  show jd5 _ p node ((c:Int)::(L++B)) vars=_
  conv=>lhs;unfold jd5
  rw [if_neg (fun e=>by subst e;simp at hn;omega),i2 (by omega)]
  split
  ·rw [jiT _ fun b hb=>?_];rfl
   obtain ⟨lo',g1,g2,g3,_⟩:=jdR h1 b (by
    have:=List.mem_of_mem_drop hb
    simpa [jag] using this)
   exact jfP n b lo' _ g2 (by omega)
  ·rfl
theorem jvF {p:GProg} {node:Int} {n:Nat} {vars R:List GVar} {b:Int} {lo hi:Nat} {L:List Int} (h:Chain p.tree.nodes lo L hi) (hb:b∈L) (hw:∀ lo',Chain p.tree.nodes lo' (nth p.tree.nodes b.toNat).l b.toNat→jbp p node n b vars=some R∧lo'≤node.toNat):jgQ (jbp p node n) vars L=some R:=by
 induction h with
 | nil=>cases hb
 | @cons lo c hi L hc h1 h2 i1 i2=>
  unfold jgQ
  by_cases e:(c:Int)=b
  ·subst e
   rw [(hw lo (by simpa using h1)).1];rfl
  ·have hb:b∈L:=by
    rcases List.mem_cons.1 hb with e' | hb
    ·exact (e e'.symm).elim
    ·exact hb
   obtain ⟨lo',g1,g2,_⟩:=jdR h2 b hb
   have:=(hw lo' g2).2
   rw [jfP n c lo vars (by simpa using h1) (.inr (by simp;omega))]
   exact i2 hb
def jfF (P:List GPlace):GPlace:=nth P (P.length - 1)
theorem jpI (x y:GPlace) (l:List GPlace):jfF (x::y::l)=jfF (y::l):=rfl
theorem jmI {p:GProg} (ht:TreeOk p.tree):∀ (P:List GPlace) (b:Int) (n lo:Nat) (vars:List GVar),P≠[]→jhJ p (fun c=>c=b) P→Chain p.tree.nodes lo (nth p.tree.nodes b.toNat).l b.toNat→b.toNat < p.tree.nodes.length→P.length≤n→0≤(jfF P).at_→(jfF P).at_ < (jax p (jfF P).block).length→
  jbp p (nth (jax p (jfF P).block) (jfF P).at_.toNat) n b vars=some (jmM p vars P)∧lo≤(nth (jax p (jfF P).block) (jfF P).at_.toNat).toNat∧(nth (jax p (jfF P).block) (jfF P).at_.toNat).toNat < b.toNat∧0≤nth (jax p (jfF P).block) (jfF P).at_.toNat
 | [],_,_,_,_,h,_,_,_,_,_,_=>(h rfl).elim
 | x::l,b,0,lo,vars,_,_,_,_,hl,_,_=>by simp at hl
 | [x],b,n+1,lo,vars,_,hN,hc,hb,hl,h0,h1=>by
  have hx:x.block=b:=hN.1
  have h0:0≤x.at_:=h0
  have h1:x.at_ < (jax p x.block).length:=h1
  show jbp p (nth (jax p x.block) x.at_.toNat) (n+1) b vars=some (jdY p ((jax p x.block).take x.at_.toNat) vars)∧_≤(nth (jax p x.block) x.at_.toNat).toNat∧(nth (jax p x.block) x.at_.toNat).toNat < _∧0≤nth (jax p x.block) x.at_.toNat
  rw [hx] at h1 ⊢
  obtain ⟨i,hi⟩:∃ i:Nat,x.at_.toNat=i:=⟨_,rfl⟩
  have hlt:i < (jax p b).length:=by omega
  rw [hi]
  have hsplit:jax p b=(jax p b).take i++(nth (jax p b) i::(jax p b).drop (i+1)):=by
   rw [ja3 hlt,List.getElem_cons_drop,List.take_append_drop]
  have hc':Chain p.tree.nodes lo ((jax p b).take i++(nth (jax p b) i::(jax p b).drop (i+1))) b.toNat:=by rw [← hsplit];exact hc
  obtain ⟨mid,g1,g2⟩:=jfA hc'
  obtain ⟨lo',k1,k2,k3,k4⟩:=jdR g2 (nth (jax p b) i) (by simp)
  have:=k2.le
  have:=g1.le
  refine ⟨?_,by omega,by omega,k4⟩
  show jd5 (jbp p _ n) p _ (jag p b).l vars=_
  have hnb:(jag p b).l=jax p b:=rfl
  rw [hnb,hsplit,jmt g1 (by rw [← hsplit];omega)]
  unfold jd5
  rw [if_pos (by rw [← hsplit]),← hsplit]
 | x::y::l,b,n+1,lo,vars,_,hN,hc,hb,hl,h0,h1=>by
  have hx:x.block=b:=hN.1
  obtain ⟨i,k1,k2,k3,k4⟩:=hN.2.1
  rw [jpI] at h0 h1 ⊢
  have hE:jmM p vars (x::y::l)=jmM p (jdY p ((jax p x.block).take i) vars) (y::l):=by
   show jmM p (jdY p _ vars) (y::l)=_
   rw [jou k1 k2 k3]
  rw [hE,hx] at *
  have hsplit:jax p b=(jax p b).take i++(nth (jax p b) i::(jax p b).drop (i+1)):=by
   rw [ja3 k2,List.getElem_cons_drop,List.take_append_drop]
  have hc':Chain p.tree.nodes lo ((jax p b).take i++(nth (jax p b) i::(jax p b).drop (i+1))) b.toNat:=by rw [← hsplit];exact hc
  obtain ⟨mid,g1,g2⟩:=jfA hc'
  obtain ⟨lo1,j1,j2,j3,j4⟩:=jdR g2 (nth (jax p b) i) (by simp)
  have m1:=g1.le
  have hmem:=List.mem_of_mem_drop k4
  obtain ⟨lo2,q1,q2,q3,q4⟩:=jdR j2 y.block hmem
  have m2:=q2.le
  have hN2:jhJ p (fun c=>c=y.block) (y::l):=⟨rfl,hN.2.2⟩
  have ih:=fun vs lo' hlo=>jmI ht (y::l) y.block n lo' vs (by simp) hN2 hlo (by omega) (by simpa using hl) h0 h1
  obtain ⟨_,w2,w3,w4⟩:=ih [] lo2 q2
  generalize nth (jax p (jfF (y::l)).block) (jfF (y::l)).at_.toNat=node at *
  refine ⟨?_,by omega,by omega,w4⟩
  show jd5 (jbp p node n) p node (jag p b).l vars=_
  have hnb:(jag p b).l=jax p b:=rfl
  rw [hnb]
  conv=>lhs;rw [hsplit]
  rw [jmt g1 (by omega)]
  unfold jd5
  rw [if_neg (fun e=>by rw [← e] at w3;omega),if_pos k3,jh6 (by omega)]
  obtain ⟨a,L,hL⟩:∃ a L,(jag p (nth (jax p b) i)).l=a::L:=by
   cases hq:(jag p (nth (jax p b) i)).l with
   | nil=>rw [hq] at k4;simp at k4
   | cons a L=>exact ⟨a,L,rfl⟩
  have j2':Chain p.tree.nodes lo1 (a::L) (nth (jax p b) i).toNat:=by rw [← hL];exact j2
  rw [hL] at k4 ⊢
  have k4:y.block∈L:=k4
  show (jgQ (jbp p node n) _ L).or _=_
  cases j2' with
  | cons hc1 h2 h3=>
   rw [jvF h3 k4 fun lo' hlo=>⟨(ih (jdY p ((jax p b).take i) vars) lo' hlo).1,(ih [] lo' hlo).2.1⟩];rfl
def jfn (p:GProg) (f:GFrame):Int:=nth (jax p f.pl.block) f.pl.at_.toNat
def jjB (p:GProg) (f:GFrame):List GVar:=jmM p (jft (nth p.tree.fns f.fn.toNat).params 0) f.path
structure ValT (N:Int) (t:Int) (w:GValue):Prop where
 ty:w.ty=t
 may:jhw w=true
 lst:w.ty=4→w.n≤N
theorem jy7 {w:GValue} (h:jhw w=true):1≤w.ty∧w.ty≤4:=by
 unfold jhw at h
 split at h
 ·omega
 split at h
 ·omega
 split at h
 ·omega
 split at h
 ·omega
 ·cases h
theorem jh9 {t:Int} (h:1≤t∧t≤4):jhw (vZ t)=true:=by
 have:t=1∨t=2∨t=3∨t=4:=by omega
 rcases this with rfl | rfl | rfl | rfl<;>decide
theorem jbY {f:GFrame} (h:f.path≠[]):f.path=f.path.take (f.path.length - 1)++[f.pl]:=by
 have hl:=List.length_pos_iff.2 h
 have:=jij f.path (f.path.length - 1) (by omega)
 rw [show f.path.length - 1+1=f.path.length by omega,List.take_length] at this
 exact this
theorem ji8 {f:GFrame} (h:f.path≠[]):(onF f).path=f.path.take (f.path.length - 1)++[⟨f.pl.block,f.pl.at_+1⟩]:=by
 have hl:=List.length_pos_iff.2 h
 show f.path.set (f.path.length - 1) _=_
 have:∀ (l:List GPlace) (x:GPlace),0 < l.length→l.set (l.length - 1) x=l.take (l.length - 1)++[x]:=fun l x hl=>by
  apply List.ext_getElem
  ·simp;omega
  ·intro i h1 h2
   rw [List.getElem_set,List.getElem_append]
   simp at h1
   split
   ·rename_i e;rw [dif_neg (by simp;omega)];simp
   ·rename_i e;rw [dif_pos (by simp;omega)];simp
 exact this _ _ hl
def jqe (p:GProg) (f:GFrame) (g:Int):Prop:=((jag p (jfn p f)).kind=10∨(jag p (jfn p f)).kind=11∨(jag p (jfn p f)).kind=13)∧(jag p (nth (jag p (jfn p f)).l 0)).kind=21∧jgE p (nth (jag p (jfn p f)).l 0)=g
end Go.Gd
namespace Go.Proofs.YtfkgcobaheegbaaGreatDoor
open Go Go.Gd
set_option maxHeartbeats 4000000
structure FrT (p:GProg) (N:Int) (f:GFrame):Prop where
 nest:jhJ p (fun b=>b=(nth p.tree.fns f.fn.toNat).body) f.path
 vis:∀ v∈jjB p f,0≤v.slot∧v.slot < f.slots.length∧(nth f.slots v.slot.toNat).ty=v.ty∧jhw (nth f.slots v.slot.toNat)=true
 lst:∀ w∈f.slots,w.ty=4→w.n≤N
structure WOk (p:GProg):Prop where
 ok:SOk p
 fn:∀ j,j < p.tree.fns.length→FnWt p j
theorem jpY {s:ByteArray} (he:(jaX s).2.2=0):WOk (jaX s).1:=⟨jc1 he,jrH he⟩
theorem jgL {p:GProg} (hw:WOk p) {f:GFrame} (h:FrOk p f) {N:Int} (t:FrT p N f) (hb:jnN p f):(∀ m,StW p f.fn.toNat (BlW p f.fn.toNat m) (jjB p f) (jfn p f))∧jim (jjB p f):=by
 have f0:=h.f0
 have f1:=h.f1
 have hF:=hw.fn f.fn.toNat (by omega)
 have hx:=h.pl _ (jes hb.1)
 have ha0:=hx.a0
 have hb2:=hb.2
 refine ⟨fun m=>?_,jt9 _ _ _ t.nest (fun b e m=>by subst e;exact hF.body m) hF.env⟩
 have hn:=t.nest
 rw [jbY hb.1] at hn
 have:=jx9 _ _ _ _ hn (fun b e m=>by subst e;exact hF.body m) (m+1)
 have:=jvK _ _ this f.pl.at_.toNat (by show _ < (jax p f.pl.block).length;omega)
 have e:jjB p f=jdY p ((jax p f.pl.block).take f.pl.at_.toNat) (jmM p (jft (nth p.tree.fns f.fn.toNat).params 0) (f.path.take (f.path.length - 1))):=by
  unfold jjB
  rw [jbY hb.1,jey,← jbY hb.1]
  rfl
 rw [e]
 exact this
theorem jzZ {p:GProg} (hw:WOk p) {f:GFrame} (h:FrOk p f) {N:Int} (t:FrT p N f) (hb:jnN p f):jlz p (jfn p f)=jjB p f:=by
 have f0:=h.f0
 have f1:=h.f1
 have hx:=h.pl _ (jes hb.1)
 have hfn:=(jgL hw h t hb).1 0
 have hfn:=hfn.fn
 have hc:=(hw.ok.fns f.fn.toNat (by omega)).chain
 have hbN:=jcU hw.ok.ok.tree (k:=f.fn.toNat) (by omega)
 unfold jlz
 rw [hfn,Int.toNat_natCast]
 have hlen:=jmX f.path p.tree.nodes.length (List.pairwise_map.1 h.dec) fun x hx=>⟨(h.pl x hx).b0,by have:=(h.pl x hx).in_ hw.ok f0 f1;have:=(h.pl x hx).b0;omega⟩
 have k:=jmI hw.ok.ok.tree f.path (nth p.tree.fns f.fn.toNat).body p.tree.nodes.length (jeO p.tree f.fn.toNat) (jft (nth p.tree.fns f.fn.toNat).params 0) hb.1 t.nest hc (by have:=hbN.1;have:=hbN.2;omega) hlen hx.a0 hb.2
 have k:jbp p (jfn p f) p.tree.nodes.length (nth p.tree.fns f.fn.toNat).body (jft (nth p.tree.fns f.fn.toNat).params 0)=some _:=k.1
 rw [k]
 rfl
theorem FrT.on {p:GProg} {N:Int} {f:GFrame} (h:FrOk p f) (t:FrT p N f) (hb:jnN p f) (hk:(jag p (jfn p f)).kind≠10):FrT p N (onF f):=by
 have ha0:=(h.pl _ (jes hb.1)).a0
 have hb2:=hb.2
 have e:jjB p (onF f)=jjB p f:=by
  have e1:jjB p f=jdY p ((jax p f.pl.block).take f.pl.at_.toNat) (jmM p (jft (nth p.tree.fns f.fn.toNat).params 0) (f.path.take (f.path.length - 1))):=by
   unfold jjB
   rw [jbY hb.1,jey,← jbY hb.1];rfl
  rw [e1]
  unfold jjB
  rw [ji8 hb.1,jey]
  show jdY p ((jax p f.pl.block).take (f.pl.at_+1).toNat) _=_
  rw [show (f.pl.at_+1).toNat=f.pl.at_.toNat+1 by omega,jij _ _ (by omega),jiW]
  exact jh6 hk
 refine ⟨?_,by rw [e];exact t.vis,t.lst⟩
 have hn:=t.nest
 rw [jbY hb.1,jek] at hn
 rw [ji8 hb.1,jek]
 exact ⟨hn.1,hn.2.1,trivial⟩
theorem jte {α:Type} {l:List α} {i:Nat} {x y:α} (h:x∈l.set i y):x=y∨x∈l:=by
 rcases List.mem_or_eq_of_mem_set h with h | h
 ·exact .inr h
 ·exact .inl h
theorem FrT.store {p:GProg} (hw:WOk p) {N:Int} {f:GFrame} (h:FrOk p f) (t:FrT p N f) (hb:jnN p f) (hx:jgO p (jfn p f)) {w:GValue} (hv:ValT N (nth p.types (nth (jag p (jfn p f)).l 0).toNat) w):FrT p N (onF { f with slots:=f.slots.set (nth p.slots (jfn p f).toNat).toNat w }):=by
 have ha0:=(h.pl _ (jes hb.1)).a0
 have hb2:=hb.2
 have f0:=h.f0
 have f1:=h.f1
 obtain ⟨sw,hE⟩:=jgL hw h t hb
 have sw:=sw 0
 have hX:=h.pl _ (jes hb.1)
 have hm:jfn p f∈jax p f.pl.block:=jaw (by omega)
 obtain ⟨k0,k1,k2,k3⟩:=hX.kid hw.ok f0 f1 hm
 have hsl:=(hw.ok.fns f.fn.toNat (by omega)).all (jfn p f).toNat k2 (by have:=hX.hi;omega) (by unfold jgO at hx;unfold jdH;omega)
 have hfs:=h.sl
 generalize hs:nth p.slots (jfn p f).toNat=s at *
 have hnth:∀ i:Int,0≤i→nth (f.slots.set s.toNat w) i.toNat=if i=s then w else nth f.slots i.toNat:=fun i hi=>by
  rw [Go.Gd.nth_upd _ _ _ _ (by omega)]
  by_cases e:i=s
  ·rw [if_pos e,if_pos (by omega)]
  ·rw [if_neg e,if_neg (by omega)]
 have e1:jjB p f=jdY p ((jax p f.pl.block).take f.pl.at_.toNat) (jmM p (jft (nth p.tree.fns f.fn.toNat).params 0) (f.path.take (f.path.length - 1))):=by
  unfold jjB
  rw [jbY hb.1,jey,← jbY hb.1];rfl
 have e:jjB p (onF { f with slots:=f.slots.set s.toNat w })=jk3 p (jfn p f) (jjB p f):=by
  rw [e1]
  unfold jjB
  rw [ji8 (f:={ f with slots:=f.slots.set s.toNat w }) hb.1,jey]
  show jdY p ((jax p f.pl.block).take (f.pl.at_+1).toNat) _=_
  rw [show (f.pl.at_+1).toNat=f.pl.at_.toNat+1 by omega,jij _ _ (by omega),jiW]
  rfl
 refine ⟨?_,fun v hv'=>?_,fun u hu=>?_⟩
 ·have hn:=t.nest
  rw [jbY hb.1,jek] at hn
  rw [ji8 (f:={ f with slots:=f.slots.set s.toNat w }) hb.1,jek]
  exact ⟨hn.1,hn.2.1,trivial⟩
 ·rw [e] at hv'
  show 0≤v.slot∧v.slot < (f.slots.set s.toNat w).length∧(nth (f.slots.set s.toNat w) v.slot.toNat).ty=v.ty∧jhw (nth (f.slots.set s.toNat w) v.slot.toNat)=true
  rw [List.length_set]
  have old:∀ v∈jjB p f,v.slot≠s→0≤v.slot∧v.slot < f.slots.length∧(nth (f.slots.set s.toNat w) v.slot.toNat).ty=v.ty∧jhw (nth (f.slots.set s.toNat w) v.slot.toNat)=true:=fun v hv hne=>by
   obtain ⟨g1,g2,g3,g4⟩:=t.vis v hv
   rw [hnth _ g1,if_neg hne]
   exact ⟨g1,g2,g3,g4⟩
  rcases hx with hx | hx
  ·unfold jk3 at hv'
   rw [if_pos (show (jag p (jfn p f)).kind=10 from hx)] at hv'
   rcases List.mem_append.1 hv' with hv' | hv'
   ·exact old v hv' (by have:=(sw.let_ hx v hv').2;rwa [hs] at this)
   ·rw [List.mem_singleton.1 hv']
    show 0≤nth p.slots (jfn p f).toNat∧nth p.slots (jfn p f).toNat < _∧(nth (f.slots.set s.toNat w) (nth p.slots (jfn p f).toNat).toNat).ty=nth p.types (nth (jag p (jfn p f)).l 0).toNat∧jhw (nth (f.slots.set s.toNat w) (nth p.slots (jfn p f).toNat).toNat)=true
    rw [hs,hnth _ hsl.1,if_pos rfl]
    exact ⟨hsl.1,by omega,hv.ty,hv.may⟩
  ·rw [jh6 (by have hx:(jag p (jfn p f)).kind=11:=hx;omega)] at hv'
   by_cases hne:v.slot=s
   ·obtain ⟨u,u1,u2,u3,u4⟩:=sw.set hx
    have huv:u=v:=by
     obtain ⟨i,hi,rfl⟩:=List.getElem_of_mem u1
     obtain ⟨k,hk,rfl⟩:=List.getElem_of_mem hv'
     rw [hs] at u3
     rcases Nat.lt_trichotomy i k with hik | hik | hik
     ·exact ((List.pairwise_iff_getElem.1 hE i k hi hk hik).2 (by rw [u3,hne])).elim
     ·subst hik;rfl
     ·exact ((List.pairwise_iff_getElem.1 hE k i hk hi hik).2 (by rw [u3,hne])).elim
    subst huv
    rw [hne,hnth _ hsl.1,if_pos rfl]
    exact ⟨hsl.1,by omega,hv.ty.trans u4.symm,hv.may⟩
   ·exact old v hv' hne
 ·have hu:u∈f.slots.set s.toNat w:=hu
  rcases jte hu with rfl | hu
  ·exact hv.lst
  ·exact t.lst u hu
theorem FrT.deeper {p:GProg} {N:Int} {f:GFrame} (t:FrT p N f) (hne:f.path≠[]) {b:Int} (hk:jqi p f.pl b):FrT p N { f with path:=f.path++[⟨b,0⟩] }:=by
 have e:jjB p { f with path:=f.path++[⟨b,0⟩] }=jjB p f:=by
  unfold jjB
  show jmM p _ (f.path++[⟨b,0⟩])=_
  rw [jey];rfl
 refine ⟨?_,by rw [e];exact t.vis,t.lst⟩
 show jhJ p _ (f.path++[⟨b,0⟩])
 rw [jek]
 refine ⟨t.nest,?_,trivial⟩
 rw [jbY hne,jkc];exact hk
theorem FrT.cut {p:GProg} {N:Int} {f:GFrame} (t:FrT p N f) (hne:f.path≠[]):FrT p N { f with path:=f.path.take (f.path.length - 1) }:=by
 have hn:=t.nest
 rw [jbY hne,jek] at hn
 refine ⟨hn.1,fun v hv=>t.vis v ?_,t.lst⟩
 unfold jjB
 rw [jbY hne,jey]
 exact jov _ _ hv
theorem FrT.mono {p:GProg} {N M:Int} {f:GFrame} (t:FrT p N f) (h:N≤M):FrT p M f:=⟨t.nest,t.vis,fun w hw e=>by have:=t.lst w hw e;omega⟩
structure WtR (p:GProg) (R:RS):Prop where
 fr:∀ k,k < R.nf→FrT p R.heap.length (nth R.frs k)
 link:∀ k,k+1 < R.nf→jqe p (nth R.frs k) (nth R.frs (k+1)).fn
theorem WtR.upd {p:GProg} {R:RS} (t:WtR p R) (hok:R.nf≤R.frs.length) (h1:1≤R.nf) {f:GFrame} (hf:FrT p R.heap.length f) (hfn:f.fn=R.topF.fn):WtR p (R.upd (R.nf - 1) f):=by
 have hu:=fun k=>RS.nth_upd (R:=R) (k:=R.nf - 1) (by omega) f k
 refine ⟨fun k hk=>?_,fun k hk=>?_⟩
 ·rw [hu];split
  ·exact hf
  ·exact t.fr k hk
 ·have hk:k+1 < R.nf:=hk
  rw [hu,if_neg (by omega),hu]
  split
  ·rename_i e
   have:=t.link k hk
   rw [hfn,RS.topF,← e];exact this
  ·exact t.link k hk
theorem WtR.cut {p:GProg} {R:RS} (t:WtR p R) (hok:R.nf≤R.frs.length) (h1:1≤R.nf) (hp:R.topF.path.length≠0):WtR p R.cut:=by
 have:=t.upd hok h1 (f:={ R.topF with path:=R.topF.path.take (R.topF.path.length - 1) }) ((t.fr (R.nf - 1) (by omega)).cut fun e=>hp (by unfold RS.topF;rw [e];rfl)) rfl
 exact ⟨this.fr,this.link⟩
theorem jo7 {R:RS} {p:GProg} {a:Int} {v:GValue} (h:R.nf - 1 < R.frs.length):(R.setS p a v).on=R.upd (R.nf - 1) (onF { R.topF with slots:=R.topF.slots.set (nth p.slots a.toNat).toNat v }):=by
 have hn:nth (R.setS p a v).frs (R.nf - 1)=_:=(RS.nth_upd (R:=R) h _ (R.nf - 1)).trans (if_pos rfl)
 show RS.upd _ (R.nf - 1) (onF (nth (R.setS p a v).frs (R.nf - 1)))=_
 rw [hn]
 unfold RS.setS RS.upd
 simp only [RS.topF,List.set_set]
theorem WtR.tells {p:GProg} (hw:WOk p) {R:RS} (hI:InvR p R) (t:WtR p R) (h1:1≤R.nf) {v:GValue} (hv:(nth p.tree.fns R.topF.fn.toNat).ret≠0→ValT R.heap.length (nth p.tree.fns R.topF.fn.toNat).ret v):WtR p (R.tells p v):=by
 have hnf:=hI.ok.nf
 unfold RS.tells
 split
 ·exact ⟨fun k hk=>t.fr k (by have hk:k < R.nf - 1:=hk;omega),fun k hk=>t.link k (by have hk:k+1 < R.nf - 1:=hk;omega)⟩
 rename_i h2
 have hP:WtR p R.pop:=⟨fun k hk=>t.fr k (by have hk:k < R.nf - 1:=hk;omega),fun k hk=>t.link k (by have hk:k+1 < R.nf - 1:=hk;omega)⟩
 have hb:=hI.busy (R.nf - 1 - 1) (by omega)
 have hf:=hI.fr (R.nf - 1 - 1) (by omega)
 have ht:=t.fr (R.nf - 1 - 1) (by omega)
 have hl:=t.link (R.nf - 1 - 1) (by omega)
 rw [show R.nf - 1 - 1+1=R.nf - 1 by omega] at hl
 have hl:jqe p (nth R.frs (R.nf - 1 - 1)) R.topF.fn:=hl
 have hat:atV p R.pop.st=jfn p (nth R.frs (R.nf - 1 - 1)):=by
  unfold atV jfn
  have:R.pop.st.top=nth R.frs (R.nf - 1 - 1):=by
   unfold GState.top
   show nth (R.frs.take (R.nf - 1)) ((R.frs.take (R.nf - 1)).length - 1)=_
   rw [show (R.frs.take (R.nf - 1)).length=R.nf - 1 by simp;omega,jeK _ _ _ (by omega)]
  rw [this]
 have hpn:R.pop.nf=R.nf - 1:=rfl
 have hpf:R.pop.frs=R.frs:=rfl
 split
 ·rename_i hls
  rw [hat] at hls
  obtain ⟨c1,c2,c3⟩:=hl
  have hcw:=((jgL hw hf ht hb).1 0).call (by have:=hls;unfold jgO at this;have e:(jag p (jfn p (nth R.frs (R.nf - 1 - 1)))).kind=(nth p.tree.nodes (jfn p (nth R.frs (R.nf - 1 - 1))).toNat).kind:=rfl;omega) c2
  have hr:=hcw.ret
  rw [c3] at hr
  have hty:1≤nth p.types (nth (jag p (jfn p (nth R.frs (R.nf - 1 - 1)))).l 0).toNat:=by
   rcases hls with e | e
   ·have hm:jfn p (nth R.frs (R.nf - 1 - 1))∈jax p (nth R.frs (R.nf - 1 - 1)).pl.block:=jaw (by have:=hb.2;have:=(hf.pl _ (jes hb.1)).a0;omega)
    have hX:=hf.pl _ (jes hb.1)
    obtain ⟨k0,k1,k2,k3⟩:=hX.kid hw.ok hf.f0 hf.f1 hm
    have hi:=hX.in_ hw.ok hf.f0 hf.f1
    exact ((hw.ok.ok.ty (jfn p (nth R.frs (R.nf - 1 - 1))).toNat (Nat.zero_le _) (by omega)).let_ e).1
   ·obtain ⟨u,u1,u2,u3,u4⟩:=((jgL hw hf ht hb).1 0).set e
    obtain ⟨_,_,g3,g4⟩:=ht.vis u u1
    have:=jy7 g4
    rw [← u4,← g3];exact this.1
  have hv':=hv (by omega)
  rw [← hr] at hv'
  have hst:=FrT.store hw hf ht hb hls hv'
  rw [jo7 (R:=R.pop) (by rw [hpn,hpf];omega),hat]
  exact hP.upd (by rw [hpn,hpf];omega) (by omega) hst rfl
 ·rename_i hls
  rw [hat] at hls
  exact hP.upd (by rw [hpn,hpf];omega) (by omega) (FrT.on hf ht hb fun e=>hls (.inl e)) rfl
theorem WtR.settle {p:GProg} (hw:WOk p):∀ (n:Nat) {R:RS},InvR p R→WtR p R→WtR p (jbB p n R)
 | 0,R,_,t=>t
 | n+1,R,hI,t=>by
  unfold jbB
  split
  ·exact t
  rename_i e
  have hg:=hI.go e
  split
  ·refine WtR.settle hw n (hI.tells hg _).1 (t.tells hw hI hg fun hz=>?_)
   have hf:FrOk p R.topF:=hI.fr (R.nf - 1) (by omega)
   have:=(hw.ok.ok.tree.fn _ (jaw (l:=p.tree.fns) (k:=R.topF.fn.toNat) (by have:=hf.f0;have:=hf.f1;omega))).1.ret
   exact ⟨rfl,jh9 (by omega),fun _=>by show (0:Int)≤_;omega⟩
  rename_i e1
  split
  ·exact t
  ·exact WtR.settle hw n (hI.cut hg e1).1 (t.cut hI.ok.nf hg e1)
theorem j1u (s:ByteArray) (a b:Int):jgA s a b≠4:=by
 unfold jgA
 (repeat' split)<;>omega
theorem jsO {p:GProg} (h:POk p) {slots:List GValue} {heap:List (List Int)} {N:Int} (hN:0≤N) (hl:∀ w∈slots,w.ty=4→w.n≤N) {n:Nat} {a:Int} (h0:0≤a) (h1:a < p.tree.nodes.length) (hn:a.toNat < n) (hk:isE (jaj p.tree.nodes a)):(jbi p slots heap n a).1.ty=4→(jbi p slots heap n a).1.n≤N:=by
 intro e
 have ht:=jfB h slots heap n a h0 h1 hn hk
 rcases ht with ⟨_,t1,_⟩ | ⟨_,t1⟩
 rotate_left
 ·rw [t1] at e;exact absurd e (by decide)
 rw [e] at t1
 have ty:=h.ty a.toNat (Nat.zero_le _) (by omega)
 have hk':isE (nth p.tree.nodes a.toNat).kind:=hk
 unfold isE at hk'
 have k4:(nth p.tree.nodes a.toNat).kind=4:=by
  have hc:(nth p.tree.nodes a.toNat).kind=1∨(nth p.tree.nodes a.toNat).kind=2∨(nth p.tree.nodes a.toNat).kind=3∨(nth p.tree.nodes a.toNat).kind=4∨(nth p.tree.nodes a.toNat).kind=5∨(nth p.tree.nodes a.toNat).kind=6∨(nth p.tree.nodes a.toNat).kind=7∨(nth p.tree.nodes a.toNat).kind=8∨(nth p.tree.nodes a.toNat).kind=9:=by omega
  rcases hc with k | k | k | k | k | k | k | k | k
  ·have:=ty.int k;omega
  ·have:=ty.bool k;omega
  ·have:=ty.text k;omega
  ·exact k
  ·have:=(ty.index k).1;omega
  ·have:=(ty.len k).1;omega
  ·have:=(ty.neg k).1;omega
  ·have:=(ty.not k).1;omega
  ·have:=(ty.bin k).1;rw [← t1] at this;exact (j1u _ _ _ this.symm).elim
 obtain ⟨m,rfl⟩:∃ m,n=m+1:=⟨n - 1,by omega⟩
 have ev:jbi p slots heap (m+1) a=(jfs slots (nth p.slots a.toNat) (nth p.types a.toNat),0):=by
  conv=>lhs;unfold jbi
  simp only
  rw [if_neg (by omega),if_neg (by omega),if_neg (by omega),if_pos k4]
 rw [ev] at e ⊢
 have e:(jfs slots (nth p.slots a.toNat) (nth p.types a.toNat)).ty=4:=e
 show (jfs slots (nth p.slots a.toNat) (nth p.types a.toNat)).n≤N
 unfold jfs at e ⊢
 split
 ·exact hN
 rename_i e1
 rw [if_neg e1] at e
 split
 ·rename_i e2
  rw [if_pos e2] at e
  exact hl _ (jaw (by omega)) e
 ·exact hN
theorem jwC {p:GProg} (hs:SOk p) {R:RS} (hl:∀ w∈R.topF.slots,w.ty=4→w.n≤R.heap.length) {a:Int} (h0:0≤a) (h1:a.toNat < p.tree.nodes.length) (hk:isE (jaj p.tree.nodes a)) (h2:(R.val p a).2=0):ValT R.heap.length (nth p.types a.toNat) (R.val p a).1:=by
 obtain ⟨t1,t2⟩:=jfM (juC hs R h0 h1 hk) h2
 exact ⟨t1,t2,jsO hs.ok (by omega) hl h0 (by omega) (by omega) hk⟩
theorem jnV {p:GProg} (R:RS):∀ (l:List Int) (a:List GValue),(R.args p l a).2=0→(R.args p l a).1=a++l.map (fun x=>(R.val p x).1)∧∀ x∈l,(R.val p x).2=0
 | [],a,_=>⟨by simp [RS.args],fun x hx=>by cases hx⟩
 | x::l,a,h=>by
  unfold RS.args at h ⊢
  split
  ·rename_i e;rw [if_pos e] at h;exact (e h).elim
  ·rename_i e;rw [if_neg e] at h
   obtain ⟨h1,h2⟩:=jnV R l _ h
   refine ⟨by rw [h1];simp,fun y hy=>?_⟩
   rcases List.mem_cons.1 hy with rfl | hy
   ·exact Classical.not_not.1 e
   ·exact h2 y hy
theorem jur:∀ (l:List GParam) (i:Int) (v:GVar),v∈jft l i→∃ k:Nat,k < l.length∧v.slot=i+k∧v.ty=(nth l k).ty
 | [],_,v,h=>by cases h
 | x::l,i,v,h=>by
  unfold jft at h
  rcases List.mem_cons.1 h with rfl | h
  ·exact ⟨0,by simp,by show i=i+((0:Nat):Int);omega,rfl⟩
  ·obtain ⟨k,h1,h2,h3⟩:=jur l (i+1) v h
   exact ⟨k+1,by simpa using h1,by rw [h2];push_cast;omega,h3⟩
theorem jth {α β:Type} [Inhabited α] [Inhabited β] (f:α→β) (l:List α) (k:Nat) (h:k < l.length):nth (l.map f) k=f (nth l k):=by
 rw [ja3 (by simpa using h),ja3 h];simp
theorem jqF {p:GProg} (hs:SOk p) {k:Nat} (hk:k < p.tree.fns.length) {args:List GValue} {N:Int} (hN:0≤N) (ha:args.length=(nth p.tree.fns k).params.length) (ht:∀ i,i < args.length→ValT N (nth (nth p.tree.fns k).params i).ty (nth args i)):FrT p N (jbh p k args):=by
 have hp:=(hs.fns k hk).par
 have hz:((jbh p k args).slots.length:Int)=nth p.size k:=by
  show ((args++List.replicate _ v0).length:Int)=_
  rw [Int.toNat_natCast];simp;omega
 have e:jjB p (jbh p k args)=jft (nth p.tree.fns k).params 0:=by
  show jmM p (jft (nth p.tree.fns (k:Int).toNat).params 0) [⟨(nth p.tree.fns (k:Int).toNat).body,0⟩]=_
  rw [Int.toNat_natCast];rfl
 refine ⟨?_,fun v hv=>?_,fun w hw e=>?_⟩
 ·show jhJ p (fun b=>b=(nth p.tree.fns (k:Int).toNat).body) [⟨(nth p.tree.fns (k:Int).toNat).body,0⟩]
  exact ⟨rfl,trivial⟩
 ·rw [e] at hv
  obtain ⟨i,h1,h2,h3⟩:=jur _ _ _ hv
  have hslot:v.slot=i:=by omega
  have hn:nth (jbh p k args).slots i=nth args i:=by
   show nth (args++List.replicate _ v0) i=_
   rw [jbe (by omega)]
  rw [hslot,Int.toNat_natCast,hn,h3]
  have:=ht i (by omega)
  exact ⟨by omega,by omega,this.ty,this.may⟩
 ·have hw:w∈args++List.replicate _ v0:=hw
  rcases List.mem_append.1 hw with hw | hw
  ·obtain ⟨i,hi,rfl⟩:=List.getElem_of_mem hw
   rw [← ja3 hi] at e ⊢
   exact (ht i hi).lst e
  ·rw [(List.mem_replicate.1 hw).2] at e
   exact absurd e (by decide)
theorem WtR.push {p:GProg} {R:RS} (t:WtR p R) (hfull:R.nf=R.frs.length) (h1:1≤R.nf) {f:GFrame} (hf:FrT p R.heap.length f) (hc:jqe p R.topF f.fn):WtR p (R.push f):=by
 have hu:∀ k,k≤R.nf→nth (R.push f).frs k=if k=R.nf then f else nth R.frs k:=fun k hk=>by
  show nth (R.frs++[f]) k=_
  rw [joI _ _ _ (by omega),hfull]
 refine ⟨fun k hk=>?_,fun k hk=>?_⟩
 ·have hk:k < R.nf+1:=hk
  rw [hu k (by omega)]
  split
  ·exact hf
  ·exact t.fr k (by omega)
 ·have hk:k+1 < R.nf+1:=hk
  rw [hu k (by omega),if_neg (by omega),hu (k+1) (by omega)]
  split
  ·rename_i e
   unfold RS.topF at hc
   rwa [show R.nf - 1=k by omega] at hc
  ·exact t.link k (by omega)
theorem Doing.topSt {p:GProg} {R:RS} (h:Doing p R):atV p R.st=jfn p R.topF:=by
 unfold atV jfn
 rw [h.topE]
theorem Doing.fr {p:GProg} {R:RS} (h:Doing p R):FrOk p R.topF:=h.inv.fr (R.nf - 1) (by have:=h.one;omega)
theorem WtR.store {p:GProg} (hw:WOk p) {R:RS} (h:Doing p R) (t:WtR p R) (hls:jgO p (atV p R.st)) {v:GValue} (hv:ValT R.heap.length (nth p.types (nth (jag p (atV p R.st)).l 0).toNat) v):WtR p (R.store p (atV p R.st) v):=by
 have h1:=h.one
 have hnf:=h.inv.ok.nf
 unfold RS.store
 rw [jo7 (by omega)]
 rw [h.topSt] at hls hv ⊢
 exact t.upd hnf h1 (FrT.store hw h.fr (t.fr (R.nf - 1) (by omega)) h.top hls hv) rfl
theorem WtR.on {p:GProg} {R:RS} (h:Doing p R) (t:WtR p R) (hk:(jag p (atV p R.st)).kind≠10):WtR p R.on:=by
 have h1:=h.one
 rw [h.topSt] at hk
 exact t.upd h.inv.ok.nf h1 (FrT.on h.fr (t.fr (R.nf - 1) (by omega)) h.top hk) rfl
theorem WtR.call {p:GProg} (hw:WOk p) {R:RS} (h:Doing p R) (t:WtR p R) {x:Int} (hx:x=nth (jag p (atV p R.st)).l 0) (hst:(jag p (atV p R.st)).kind=10∨(jag p (atV p R.st)).kind=11∨(jag p (atV p R.st)).kind=13) (h0:0≤x) (hl:x.toNat < p.tree.nodes.length) (hk:(jag p x).kind=21) (he:(R.call p x).2=0):WtR p (R.call p x).1:=by
 have h1:=h.one
 obtain ⟨k,hc⟩:=callee hw.ok hl hk
 have hcw:=((jgL hw h.fr (t.fr (R.nf - 1) (by omega)) h.top).1 0).call
 have hat:=h.topSt
 have hcw:=hcw (by rw [← hat];exact hst) (by rw [← hat,← hx];exact hk)
 rw [← hat,← hx] at hcw
 unfold RS.call at he ⊢
 simp only at he ⊢
 split at he
 ·rename_i e;exact (e he).elim
 rename_i e
 rw [if_neg e]
 split at he
 ·exact ((by decide:¬((3:Int)=0)) he).elim
 rename_i e8
 rw [if_neg e8,hc.at_]
 obtain ⟨a1,a2⟩:=jnV R _ [] (Classical.not_not.1 e)
 rw [List.nil_append] at a1
 have hsh:=(hw.ok.ok.tree.shape x.toNat hl)
 have hcal:jgE p x=k:=hc.last
 refine t.push h.full h1 (jqF hw.ok hc.lt (by omega) (by rw [a1,List.length_map];exact hc.args) fun i hi=>?_) ⟨by rw [← hat];exact hst,by rw [← hat,← hx];exact hk,by rw [← hat,← hx];exact hcal⟩
 rw [a1,List.length_map] at hi
 have hm:=jaw hi
 have hb:=hsh.2.1 _ hm
 rw [a1,jth _ _ _ hi]
 have:=jwC hw.ok (R:=R) (t.fr (R.nf - 1) (by omega)).lst hb.1 (by omega) (hsh.1.call hk _ hm) (a2 _ hm)
 have hty:=hcw.args i hi
 rw [hcal,Int.toNat_natCast] at hty
 rwa [hty] at this
theorem WtR.with {p:GProg} {R:RS} (t:WtR p R) {hp:List (List Int)} (h:R.heap.length≤hp.length) (i:Int) (o:List ByteArray):WtR p { R with heap:=hp,in_:=i,out_:=o }:=⟨fun k hk=>(t.fr k hk).mono (by show (R.heap.length:Int)≤(hp.length:Int);omega),t.link⟩
theorem WtR.does {p:GProg} (hw:WOk p) {R:RS} (h:Doing p R) (t:WtR p R) {inp:List Int} (hn:inp.length≤1000) (hwt:¬ jdE p R.st (atV p R.st) inp) (he:(R.does p (atV p R.st) inp).2=0):WtR p (R.does p (atV p R.st) inp).1:=by
 have hs:=hw.ok
 obtain ⟨s0,s1,s2,_⟩:=h.stmt hs
 have sh:=(hs.ok.tree.shape _ s1)
 have h1:=h.one
 have hnf:=h.inv.ok.nf
 have tf:=t.fr (R.nf - 1) (by omega)
 have hat:=h.topSt
 have kid:∀ i,i < (jag p (atV p R.st)).l.length→0≤nth (jag p (atV p R.st)).l i∧(nth (jag p (atV p R.st)).l i).toNat < p.tree.nodes.length:=fun i hi=>by
  have:=sh.2.1 _ (jaw (l:=(jag p (atV p R.st)).l) hi);omega
 have hsw:=((jgL hw h.fr tf h.top).1 0)
 rw [← hat] at hsw
 have hpl:=h.fr.pl _ (jes h.top.1)
 have ha0:=hpl.a0
 have hb2:=h.top.2
 have kidB:∀ (x:GPlace),x.block=R.topF.pl.block→(x.at_=R.topF.pl.at_∨x.at_=R.topF.pl.at_+1)→(jag p (atV p R.st)).kind=15∨(jag p (atV p R.st)).kind=16→∀ b,b∈(jag p (atV p R.st)).l.drop 1→jqi p x b:=fun x hx1 hx2 hk b hb=>by
  rw [hat] at hk hb
  exact ⟨R.topF.pl.at_.toNat,by omega,by rw [hx1];omega,by rw [hx1];exact hk,by rw [hx1];exact hb⟩
 have hdp:(jag p (atV p R.st)).kind=16→∀ b,b∈(jag p (atV p R.st)).l.drop 1→WtR p (R.deeper b):=fun hk b hb=>
  t.upd hnf h1 (tf.deeper h.top.1 (kidB _ rfl (.inl rfl) (.inr hk) b hb)) rfl
 have hod:(jag p (atV p R.st)).kind=15→∀ b,b∈(jag p (atV p R.st)).l.drop 1→WtR p (R.on.deeper b):=fun hk b hb=>by
  have hon:=t.on h (by omega)
  have hne:(onF R.topF).path≠[]:=by rw [ji8 h.top.1];simp
  have hpl:(onF R.topF).pl=⟨R.topF.pl.block,R.topF.pl.at_+1⟩:=by
   unfold GFrame.pl
   have hl:R.topF.path.length≠0:=fun e=>h.top.1 (List.length_eq_zero_iff.1 e)
   have e:(onF R.topF).path.length=R.topF.path.length:=by show (List.set _ _ _).length=_;simp
   rw [e]
   show nth (R.topF.path.set (R.topF.path.length - 1) _) (R.topF.path.length - 1)=_
   rw [Go.Gd.nth_upd _ _ _ _ (by omega),if_pos rfl]
  have htop:R.on.topF=onF R.topF:=RS.topF_upd h.inv.ok h1 _
  have tf2:=FrT.on h.fr tf h.top (by rw [← hat];omega)
  refine hon.upd (by show R.nf≤(R.frs.set _ _).length;simpa using hnf) h1 ?_ rfl
  rw [htop]
  exact tf2.deeper hne (kidB _ (by rw [hpl]) (.inr (by rw [hpl])) (.inl hk) b hb)
 unfold RS.does at he ⊢
 simp only at he ⊢
 split at he
 ·rename_i e
  rw [if_pos e]
  obtain ⟨a,ha,hr⟩:=sh.1.right e
  have hla:(jag p (atV p R.st)).l=[a]:=ha
  have hx:nth (jag p (atV p R.st)).l 0=a:=by rw [hla];rfl
  have ha0:=kid 0 (by rw [hla];simp)
  rw [hx] at ha0
  have hty:=hs.ok.ty a.toNat (Nat.zero_le _) ha0.2
  unfold RS.right at he ⊢
  simp only [hx] at he ⊢
  split at he
  ·rename_i e1;rw [if_pos e1]
   exact t.call hw h hx.symm (by omega) ha0.1 ha0.2 e1 he
  rename_i e1;rw [if_neg e1]
  split at he
  ·rename_i e2;rw [if_pos e2]
   have hin:¬ ((inp.length:Int)≤R.in_):=fun hle=>hwt ⟨e,by rw [hx];exact e2,hle⟩
   have hd:Doing p { R with in_:=R.in_+1 }:=h.with (hp:=R.heap) (i:=R.in_+1) (o:=R.out_) h.cells ⟨by have:=h.in0;omega,by omega⟩ h.outs
   have tw:=t.with (hp:=R.heap) (Nat.le_refl _) (R.in_+1) R.out_
   exact tw.store hw hd e ⟨by show (1:Int)=nth p.types (nth (jag p (atV p R.st)).l 0).toNat;rw [hx];exact (hty.in_ e2).symm,rfl,fun h4=>absurd h4 (by show ¬ ((1:Int)=4);decide)⟩
  rename_i e2;rw [if_neg e2]
  split at he
  ·rename_i e3;rw [if_pos e3]
   split at he
   ·rename_i e4;rw [if_pos e4]
    have hd:=h.fresh a e4
    have tw:WtR p (R.fresh p a).1∧ValT (R.fresh p a).1.heap.length 4 (R.fresh p a).2.1∧(R.fresh p a).1.st.frames=R.st.frames:=by
     unfold RS.fresh at e4 ⊢
     simp only at e4 ⊢
     split at e4
     ·rename_i e5;exact (e5 e4).elim
     rename_i e5
     rw [if_neg e5]
     split at e4
     ·exact ((by decide:¬((7:Int)=0)) e4).elim
     rename_i e6
     rw [if_neg e6]
     split at e4
     ·exact ((by decide:¬((4:Int)=0)) e4).elim
     rename_i e7
     rw [if_neg e7]
     refine ⟨t.with (hp:=R.heap++[List.replicate _ 0]) (by simp) R.in_ R.out_,⟨rfl,?_,fun _=>by show ((R.heap.length:Int)+1)≤((R.heap++[List.replicate _ 0]).length:Int);simp⟩,rfl⟩
     have h0:(0:Int)≤R.heap.length+1:=by omega
     unfold jhw
     rw [if_neg (by show ¬ ((4:Int)=1);decide),if_neg (by show ¬ ((4:Int)=2);decide),if_neg (by show ¬ ((4:Int)=3);decide),if_pos rfl]
     rw [decide_eq_true (show (⟨4,(R.heap.length:Int)+1,sE⟩:GValue).s=sE from rfl),decide_eq_true (show 0≤(⟨4,(R.heap.length:Int)+1,sE⟩:GValue).n from h0)];rfl
    obtain ⟨t1,t2,t3⟩:=tw
    have hat':atV p (R.fresh p a).1.st=atV p R.st:=by unfold atV GState.top;rw [t3]
    have:=t1.store hw hd (by rw [hat'];exact e) (v:=(R.fresh p a).2.1) (by rw [hat',hx,hty.new e3];exact t2)
    rw [hat'] at this
    exact this
   ·rename_i e4;exact (e4 he).elim
  rename_i e3;rw [if_neg e3]
  split at he
  ·rename_i e4;rw [if_pos e4]
   have hE:isE (jaj p.tree.nodes a):=by
    rcases hr with hr | hr | hr | hr
    ·exact hr
    ·exact (e2 hr).elim
    ·exact (e3 hr).elim
    ·exact (e1 hr).elim
   exact t.store hw h e (by rw [hx];exact jwC hs tf.lst ha0.1 ha0.2 hE e4)
  ·rename_i e4;exact (e4 he).elim
 rename_i e;rw [if_neg e]
 have hk10:(jag p (atV p R.st)).kind≠10:=fun h=>e (.inl h)
 split at he
 ·rename_i e1;rw [if_pos e1]
  obtain ⟨a,ha,hr⟩:=sh.1.do_ e1
  have hla:(jag p (atV p R.st)).l=[a]:=ha
  have ha0:=kid 0 (by rw [hla];simp)
  have hx:nth (jag p (atV p R.st)).l 0=a:=by rw [hla];rfl
  rw [hx] at ha0 he ⊢
  exact t.call hw h hx.symm (by omega) ha0.1 ha0.2 hr he
 rename_i e1;rw [if_neg e1]
 split at he
 ·rename_i e2;rw [if_pos e2]
  unfold RS.put at he ⊢
  simp only at he ⊢
  split at he
  ·rename_i e3;exact (e3 he).elim
  rename_i e3;rw [if_neg e3]
  split at he
  ·rename_i e4;exact (e4 he).elim
  rename_i e4;rw [if_neg e4]
  split at he
  ·exact ((by decide:¬((2:Int)=0)) he).elim
  rename_i e5;rw [if_neg e5]
  have hg:(jcn R.heap (jfs R.topF.slots (nth p.slots (atV p R.st).toNat) 4)).length≠0:=by omega
  generalize hv:jfs R.topF.slots (nth p.slots (atV p R.st).toNat) 4=v at *
  unfold jcn at hg
  split at hg
  ·simp at hg
  rename_i e6
  have hd:=h.with (hp:=R.heap.set (v.n - 1).toNat ((nth R.heap (v.n - 1).toNat).set (R.val p (nth (jag p (atV p R.st)).l 0)).1.n.toNat (R.val p (nth (jag p (atV p R.st)).l 1)).1.n)) (i:=R.in_) (o:=R.out_) (by rw [jlI _ _ _ (by omega) (by simp)];exact h.cells) ⟨h.in0,h.in1⟩ h.outs
  exact (t.with (by simp) R.in_ R.out_).on hd hk10
 rename_i e2;rw [if_neg e2]
 split at he
 ·rename_i e3;rw [if_pos e3]
  have hret:=hsw.ret e3
  have hf1:=h.fr.f1
  have hf0:=h.fr.f0
  split at he
  ·rename_i e4;rw [if_pos e4]
   exact t.tells hw h.inv h1 fun hz=>(hz (hret.2 (by omega))).elim
  rename_i e4;rw [if_neg e4]
  split at he
  ·rename_i e5;exact (e5 he).elim
  rename_i e5;rw [if_neg e5]
  refine t.tells hw h.inv h1 fun hz=>?_
  rcases sh.1.ret e3 with hl | ⟨x,hl,hxe⟩
  ·have hl:(jag p (atV p R.st)).l=[]:=hl
   rw [hl] at e4;exact (e4 rfl).elim
  ·have hl:(jag p (atV p R.st)).l=[x]:=hl
   have hx:nth (jag p (atV p R.st)).l 0=x:=by rw [hl];rfl
   have hx0:=kid 0 (by rw [hl];simp)
   have hty:=hret.1 (by rw [hl];rfl)
   rw [← hty]
   rw [hx] at hx0 e5 ⊢
   exact jwC hs tf.lst hx0.1 hx0.2 hxe (Classical.not_not.1 e5)
 rename_i e3;rw [if_neg e3]
 split at he
 ·rename_i e4;exact (e4 he).elim
 rename_i e4;rw [if_neg e4]
 split at he
 ·rename_i e5;rw [if_pos e5]
  split at he
  ·exact ((by decide:¬((5:Int)=0)) he).elim
  rename_i e6;rw [if_neg e6]
  have hd:=h.with (hp:=R.heap) (i:=R.in_) (o:=R.out_++[jfQ (R.val p (nth (jag p (atV p R.st)).l 0)).1]) h.cells ⟨h.in0,h.in1⟩ (by simp;omega)
  exact (t.with (Nat.le_refl _) R.in_ _).on hd hk10
 rename_i e5;rw [if_neg e5]
 split at he
 ·rename_i e6;rw [if_pos e6]
  obtain ⟨a,b,h1,h2,hl⟩:=sh.1.if_ e6
  split
  ·refine hod e6 _ ?_
   rcases hl with hl | ⟨d,hl,_⟩<;>(unfold jag;rw [hl];simp [nth])
  split
  ·rename_i e8
   rcases hl with hl | ⟨d,hl,hd⟩
   ·exfalso;unfold jag at e8;rw [hl] at e8;simp at e8
   ·refine hod e6 _ ?_
    unfold jag;rw [hl];simp [nth]
  ·exact t.on h hk10
 rename_i e6;rw [if_neg e6]
 split at he
 ·rename_i e7;rw [if_pos e7]
  obtain ⟨a,b,hl,h1,h2⟩:=sh.1.while_ e7
  split
  ·refine hdp e7 _ ?_
   unfold jag;rw [hl];simp [nth]
  ·exact t.on h hk10
 ·rename_i e7
  exfalso
  have:isS (jag p (atV p R.st)).kind:=s2
  unfold isS at this;omega
theorem WtR.st {p:GProg} {R:RS} (hok:R.nf≤R.frs.length) (t:WtR p R):WtR p (RS.of R.st):=by
 have hl:(RS.of R.st).nf=R.nf:=by show (R.frs.take R.nf).length=_;simp;omega
 have hfr:∀ k,k < R.nf→nth (RS.of R.st).frs k=nth R.frs k:=fun k hk=>jeK _ _ _ hk
 refine ⟨fun k hk=>?_,fun k hk=>?_⟩
 ·rw [hl] at hk;rw [hfr k hk];exact t.fr k hk
 ·rw [hl] at hk;rw [hfr k (by omega),hfr (k+1) hk];exact t.link k hk
theorem jwr {p:GProg} (hw:WOk p) {s:GState} (hI:StInv p s) (t:WtR p (RS.of s)) {inp:List Int} (hn:inp.length≤1000):WtR p (RS.of (jdo p s inp)):=by
 unfold jdo
 split
 ·exact t
 rename_i h0
 have h2:¬ (s.status=2∨s.status=3):=fun hh=>h0 (by unfold jaS;rw [if_pos hh];decide)
 split
 ·exact ⟨t.fr,t.link⟩
 rename_i hwt
 simp only
 split
 ·exact ⟨t.fr,t.link⟩
 ·rename_i he
  have hd:=hI.doing (fun hh=>h2 (.inl hh)) 0 (by decide)
  have hat:atV p (RS.of { s with status:=0 }).st=jaS p s:=by rw [RS.of_st];unfold jaS;rw [if_neg h2];rfl
  have hst:(RS.of { s with status:=0 }).st={ s with status:=0 }:=RS.of_st _
  have hA:=hd.does hw.ok hn (by rw [hat,hst];exact hwt) (by rw [hat];exact Classical.not_not.1 he)
  have hT:=WtR.does hw hd (R:=RS.of { s with status:=0 }) ⟨t.fr,t.link⟩ hn (by rw [hat,hst];exact hwt) (by rw [hat];exact Classical.not_not.1 he)
  rw [hat] at hA hT
  generalize (RS.of { s with status:=0 }).does p (jaS p s) inp=X at *
  have hX:WtR p { X.1 with time:=s.time+1 }:=⟨hT.fr,hT.link⟩
  have hI2:InvR p { X.1 with time:=s.time+1 }:=⟨⟨hA.inv.ok.nf,hA.inv.ok.jp⟩,hA.inv.frs,hA.inv.fr,hA.inv.busy,hA.inv.go⟩
  exact WtR.st (jcF _ _ hI2 (Nat.lt_succ_self _)).1.ok.nf (WtR.settle hw _ hI2 hX)
theorem jx7 {p:GProg} (hw:WOk p):WtR p (jfV p):=by
 obtain ⟨m,hm,hidx,_,hpar⟩:=jnl hw.ok
 refine ⟨fun k hk=>?_,fun k hk=>?_⟩
 ·have hk:k < 1:=hk
  have:k=0:=by omega
  subst this
  show FrT p (([]:List (List Int)).length:Int) (jbh p (jdA p) [])
  rw [hidx]
  exact jqF hw.ok hm (by simp) (by rw [hpar];rfl) fun i hi=>by simp at hi
 ·have hk:k+1 < 1:=hk
  omega
theorem jut {p:GProg} (hw:WOk p) {inp:List Int} (hn:inp.length≤1000) (hi:∀ x∈inp,Go.Gd.rng x):∀ n,WtR p (RS.of (je8 p inp n))
 | 0=>by
  show WtR p (RS.of (jjn p))
  rw [jlo]
  exact WtR.st (jcF ((jfV p).left+1) (jfV p) (jdP hw.ok).inv (by omega)).1.ok.nf (WtR.settle hw _ (jdP hw.ok).inv (jx7 hw))
 | n+1=>jwr hw (jdd hw.ok hn hi n).inv (jut hw hn hi n) hn
set_option maxRecDepth 10000
theorem jpe {p:GProg} (h:POk p) (node:Int):∀ (n:Nat) (b:Int) (vars:List GVar),0≤b→b.toNat < p.tree.nodes.length→b.toNat < n→jaj p.tree.nodes b=18→vars.length+300 * b.toNat≤1000000→
  PCall Tryz.prog 68 [.agg (jaB p),rI b,rI node,jal jdT 3 vars] (.tup [jal jdT 3 ((jbp p node n b vars).getD []),rB (jbp p node n b vars).isSome])
 | 0,b,vars,h0,hl,hn,hk,hv=>by omega
 | n+1,b,vars,h0,hl,hn,hk,hv=>by
  have ih:=jpe h node n
  have sh:=h.tree.shape b.toNat hl
  have hblk:=sh.1.block hk
  have hkid:=sh.2.1
  have hty:=h.types
  have hsl:=h.slots
  have hmany:=h.tree.many
  suffices key:∀ O,jd5 (jbp p node n) p node (jag p b).l vars=O→PCall Tryz.prog 68 [.agg (jaB p),rI b,rI node,jal jdT 3 vars] (.tup [jal jdT 3 (O.getD []),rB O.isSome]) from key _ rfl
  intro O hO
  generalize jbp p node n=w at *
  have hL0:(jag p b).l=(nth p.tree.nodes b.toNat).l:=rfl
  rw [hL0] at hO
  have hll:(nth p.tree.nodes b.toNat).l.length≤300:=by
   obtain ⟨lo,hc⟩:=sh.2.2
   have:=jiv hc
   omega
  generalize hL:(nth p.tree.nodes b.toNat).l=L at *
  refine jb9 Tryz.func68 Tryz.ntmps68 ?_
  (have W:=hL;repeat' (first|refine jaa fun K hK=>?_|refine wkA ?_|(refine hK _ _ ?_;clear hK K)|(refine jae (fun hc=>?_) (fun hc=>?_)<;>first | contradiction | (exfalso;omega) | skip)|refine bx 0 ?_|refine wkB ?_|exact True.intro|(clear hK K)));all_goals (try clear W)
  have hKo:=hK;clear hK
  refine jah (S:=Nat×List GVar) [(3,1),(8,2),(11,5),(23,80)] (fun s=>s.1≤L.length∧s.2.length≤vars.length+s.1∧jd5 w p node (L.drop s.1) s.2=O) (fun s=>[(11,rI s.1),(3,jal jdT 3 s.2),(8,.raw (.slice none 0 0)),(9,rB false)]) (fun s=>⟨[],[(0,.var 29 (jaB p))]⟩) (fun s=>L.length - s.1) (0,vars) ⟨by omega,by show vars.length≤_;omega,by simpa using hO⟩ (jaH rfl lle) ?_
  rintro ⟨k,vs⟩ ⟨hk1,hvs,hk2⟩ Kr hKr
  simp only at hk1 hvs hk2 ⊢
  by_cases hlt:k < L.length
  ·have hx:=hblk _ (jaw hlt)
   have hx2:=hkid _ (jaw hlt)
   rw [jbj hlt] at hk2
   unfold jd5 at hk2
   generalize hxd:nth L k=x at *
   by_cases hxn:x=node
   ·rw [if_pos hxn] at hk2
    subst hk2
    (refine S ?_;try exact True.intro)
    (have W:=And.intro hxd (hxn);repeat' (first|refine jaa fun K hK=>?_|refine wkA ?_|(refine hK _ _ ?_;clear hK K)|(refine jae (fun hc=>?_) (fun hc=>?_)<;>first | contradiction | (exfalso;omega) | skip)|refine wkB ?_|exact True.intro|(clear hK K)));all_goals (try clear W)
    (refine ja2 [.tmp 8,.tmp 9] ?_;try simp only [go_sem])
   rw [if_neg hxn] at hk2
   have hxl:x.toNat < p.tree.nodes.length:=by omega
   have shx:=h.tree.shape x.toNat hxl
   have hx:10≤(nth p.tree.nodes x.toNat).kind∧(nth p.tree.nodes x.toNat).kind≤17:=hx
   have hnx:jag p x=nth p.tree.nodes x.toNat:=rfl
   unfold jk3 at hk2
   rw [hnx] at hk2
   by_cases k10:(nth p.tree.nodes x.toNat).kind=10
   ·obtain ⟨a,ha,_⟩:=shx.1.right (.inl k10)
    have hal:=shx.2.1 a (by rw [ha];simp)
    have ha0:nth (nth p.tree.nodes x.toNat).l 0=a:=by rw [ha];rfl
    have ha1:(nth p.tree.nodes x.toNat).l.length=1:=by rw [ha];rfl
    rw [if_neg (by omega),if_pos k10,Option.none_or] at hk2
    (refine S ?_;try exact True.intro)
    (have W:=And.intro hxd (And.intro hxn (And.intro k10 (And.intro ha0 (ha1))));repeat' (first|refine jaa fun K hK=>?_|refine wkA ?_|(with_reducible refine gR 7 ?_);refine dE 7 [0,1,2,3,4,5,6,7,8,9,10] mixed ?_|(with_reducible refine gR 9 ?_);refine dC 9 ([],[],[50]) [] [0,1,3,4,5,6,7,8,9,10,11,12,13,14,15,16,17,18,19,20,21,22,2,23,24] mixed ?_|(refine hK _ _ ?_;clear hK K)|(refine jae (fun hc=>?_) (fun hc=>?_)<;>first | contradiction | (exfalso;omega) | skip)|refine al 1 ?_|refine j22 7 ?_|refine wkB ?_|exact True.intro|(clear hK K)));all_goals (try clear W)
    have hKb:=hK;clear hK
    refine jah (S:=Unit) [(8,2),(13,3),(72,31)] (fun _=>True) (fun j=>[(13,rI 1),(8,.raw (.slice none 0 0)),(9,rB false)]) (fun j=>⟨[],[(0,.var 29 (jaB p)),(1,.var 53 (jaq (nth p.tree.nodes x.toNat))),(7,.vec 63 3 ((vs++[jmE p x]).map jdT))]⟩) (fun j=>0) () trivial (jaH ?_ lle) ?_
    ·rw [List.map_append]
     unfold jmE
     rw [hnx,ha0];rfl
    rintro _ _ Ks hKs
    (refine S ?_;try exact True.intro)
    (have W:=And.intro k10 (ha1);repeat' (first|refine jaa fun K hK=>?_|refine wkA ?_|(refine hK _ _ ?_;clear hK K)|(refine jae (fun hc=>?_) (fun hc=>?_)<;>first | contradiction | (exfalso;omega) | skip)|(refine hKb _ _ ?_)|refine wkB ?_|exact True.intro|(clear hK K)));all_goals (try clear W)
    have hvr:VTo (fun i=>[1,7].contains i) ⟨[],[(0,.var 29 (jaB p)),(1,.var 53 (jaq (nth p.tree.nodes x.toNat))),(7,.vec 63 3 ((vs++[jmE p x]).map jdT))]⟩ (.rs 7 (vs.length+1) 3 (vs.length+1)) (jal jdT 3 (vs++[jmE p x])):=VTo.row (vs++[jmE p x]) rfl rfl (by simp)
    all_goals refine hKr _ _ (ja5 [1,7] (k+1,vs++[jmE p x]) ⟨by show k+1≤L.length;omega,by show (vs++[_]).length≤vars.length+(k+1);simp;omega,hk2⟩ (by show L.length - (k+1) < L.length - k;omega) rfl Sd (by simp only [go_sem];(try rfl)) vtl)
   rw [if_neg k10] at hk2
   by_cases kb:(nth p.tree.nodes x.toNat).kind=15∨(nth p.tree.nodes x.toNat).kind=16
   ·rw [if_pos kb] at hk2
    have hbl:∀ j,1≤j→j < (nth p.tree.nodes x.toNat).l.length→jaj p.tree.nodes (nth (nth p.tree.nodes x.toNat).l j)=18:=fun j hj1 hj2=>by
     rcases kb with kb | kb
     ·obtain ⟨a,b,_,hb,hl | ⟨d,hl,hd⟩⟩:=shx.1.if_ kb
      ·rw [hl] at hj2 ⊢
       have:j=1:=by simp at hj2;omega
       subst this;exact hb
      ·rw [hl] at hj2 ⊢
       have:j=1∨j=2:=by simp at hj2;omega
       rcases this with rfl | rfl
       ·exact hb
       ·exact hd
     ·obtain ⟨a,b,hl,_,hb⟩:=shx.1.while_ kb
      rw [hl] at hj2 ⊢
      have:j=1:=by simp at hj2;omega
      subst this;exact hb
    have hl3:2≤(nth p.tree.nodes x.toNat).l.length∧(nth p.tree.nodes x.toNat).l.length≤3:=by
     rcases kb with kb | kb
     ·obtain ⟨a,b,_,hb,hl | ⟨d,hl,hd⟩⟩:=shx.1.if_ kb<;>rw [hl]<;>simp
     ·obtain ⟨a,b,hl,_,hb⟩:=shx.1.while_ kb;rw [hl];simp
    (refine S ?_;try exact True.intro)
    (have W:=And.intro hxd (And.intro hxn (k10));repeat' (first|refine jaa fun K hK=>?_|refine wkA ?_|(with_reducible refine gR 7 ?_);refine dE 7 [0,1,2,3,4,5,6,7,8,9,10] mixed ?_|(refine hK _ _ ?_;clear hK K)|(refine jae (fun hc=>?_) (fun hc=>?_)<;>first | contradiction | (exfalso;omega) | skip)|refine al 1 ?_|refine wkB ?_|exact True.intro|(clear hK K)));all_goals (try clear W)
    have hKb:=hK;clear hK
    refine jah (S:=Nat) [(8,2),(13,3),(72,31)] (fun j=>1≤j∧j≤(nth p.tree.nodes x.toNat).l.length∧(jgQ w vs ((nth p.tree.nodes x.toNat).l.drop j)).or (jd5 w p node (L.drop (k+1)) vs)=O) (fun j=>[(13,rI j),(8,.raw (.slice none 0 0)),(9,rB false)]) (fun j=>⟨[],[(0,.var 29 (jaB p)),(1,.var 53 (jaq (nth p.tree.nodes x.toNat)))]⟩) (fun j=>(nth p.tree.nodes x.toNat).l.length - j) 1 ⟨by omega,by omega,hk2⟩ (jaH rfl lle) ?_
    rintro j ⟨hj1,hj2,hj3⟩ Ks hKs
    by_cases hjl:j < (nth p.tree.nodes x.toNat).l.length
    ·have hbj:=shx.2.1 _ (jaw hjl)
     have hw:=ih (nth (nth p.tree.nodes x.toNat).l j) vs hbj.1 (by omega) (by omega) (hbl j hj1 hjl) (by omega)
     rw [jbj hjl] at hj3
     unfold jgQ at hj3
     generalize hyd:nth (nth p.tree.nodes x.toNat).l j=y at *
     cases hy:w y vs with
     | none=>
      rw [hy] at hw hj3
      (refine S ?_;try exact True.intro)
      (have W:=And.intro hyd (kb);repeat' (first|refine jaa fun K hK=>?_|refine wkA ?_|(with_reducible refine gR 13 ?_);refine dE 13 [0,1,2,3,4,5,6,7,8,9,10,11,12,13] mixed ?_|(refine hK _ _ ?_;clear hK K)|(refine jae (fun hc=>?_) (fun hc=>?_)<;>first | contradiction | (exfalso;omega) | skip)|refine cp (hw) ?_|refine wkB ?_|exact True.intro|(clear hK K)));all_goals (try clear W)
      refine hKs _ _ (jaD (j+1) ⟨by omega,by omega,by simpa using hj3⟩ (by (try simp only);omega) rfl lle)
     | some V=>
      rw [hy] at hw hj3
      have:O=some V:=by rw [← hj3];rfl
      subst this
      (refine S ?_;try exact True.intro)
      (have W:=And.intro hyd (kb);repeat' (first|refine jaa fun K hK=>?_|refine wkA ?_|(with_reducible refine gR 13 ?_);refine dE 13 [0,1,2,3,4,5,6,7,8,9,10,11,12,13] mixed ?_|(refine hK _ _ ?_;clear hK K)|(refine jae (fun hc=>?_) (fun hc=>?_)<;>first | contradiction | (exfalso;omega) | skip)|refine cp (hw) ?_|refine wkB ?_|exact True.intro|(clear hK K)));all_goals (try clear W)
      (refine ja2 [.tmp 8,.tmp 9] ?_;try simp only [go_sem])
    ·have hje:j=(nth p.tree.nodes x.toNat).l.length:=by omega
     subst hje
     rw [List.drop_length] at hj3
     have hj3:jd5 w p node (L.drop (k+1)) vs=O:=by simpa [jgQ] using hj3
     (refine S ?_;try exact True.intro)
     (repeat' (first|refine jaa fun K hK=>?_|refine wkA ?_|(refine hK _ _ ?_;clear hK K)|(refine jae (fun hc=>?_) (fun hc=>?_)<;>first | contradiction | (exfalso;omega) | skip)|(refine hKb _ _ ?_)|refine wkB ?_|exact True.intro|(clear hK K)))
     refine hKr _ _ (ja5 [1] (k+1,vs) ⟨by show k+1≤L.length;omega,by show vs.length≤vars.length+(k+1);omega,hj3⟩ (by show L.length - (k+1) < L.length - k;omega) rfl Sd (by simp only [go_sem];(try rfl)) vtl)
   ·rw [if_neg kb,Option.none_or] at hk2
    have kb1:¬ (nth p.tree.nodes x.toNat).kind=15:=fun h=>kb (.inl h)
    have kb2:¬ (nth p.tree.nodes x.toNat).kind=16:=fun h=>kb (.inr h)
    (refine S ?_;try exact True.intro)
    (have W:=And.intro hxd (And.intro hxn (k10));repeat' (first|refine jaa fun K hK=>?_|refine wkA ?_|(with_reducible refine gR 7 ?_);refine dE 7 [0,1,2,3,4,5,6,7,8,9,10] mixed ?_|(refine hK _ _ ?_;clear hK K)|(refine jae (fun hc=>?_) (fun hc=>?_)<;>first | contradiction | (exfalso;omega) | skip)|refine al 1 ?_|refine wkB ?_|exact True.intro|(clear hK K)));all_goals (try clear W)
    have hKb:=hK;clear hK
    refine jah (S:=Unit) [(8,2),(13,3),(72,31)] (fun _=>True) (fun j=>[(13,rI 1),(8,.raw (.slice none 0 0)),(9,rB false)]) (fun j=>⟨[],[(0,.var 29 (jaB p)),(1,.var 53 (jaq (nth p.tree.nodes x.toNat)))]⟩) (fun j=>0) () trivial (jaH rfl lle) ?_
    rintro _ _ Ks hKs
    (refine S ?_;try exact True.intro)
    (have W:=And.intro kb1 (kb2);repeat' (first|refine jaa fun K hK=>?_|refine wkA ?_|(refine hK _ _ ?_;clear hK K)|(refine jae (fun hc=>?_) (fun hc=>?_)<;>first | contradiction | (exfalso;omega) | skip)|(refine hKb _ _ ?_)|refine wkB ?_|exact True.intro|(clear hK K)));all_goals (try clear W)
    all_goals refine hKr _ _ (ja5 [1] (k+1,vs) ⟨by show k+1≤L.length;omega,by show vs.length≤vars.length+(k+1);omega,hk2⟩ (by show L.length - (k+1) < L.length - k;omega) rfl Sd (by simp only [go_sem];(try rfl)) vtl)
  ·have hke:k=L.length:=by omega
   subst hke
   rw [List.drop_length] at hk2
   have hk2:O=none:=by simpa [jd5] using hk2.symm
   subst hk2
   (refine S ?_;try exact True.intro)
   (repeat' (first|refine jaa fun K hK=>?_|refine wkA ?_|(refine hK _ _ ?_;clear hK K)|(refine jae (fun hc=>?_) (fun hc=>?_)<;>first | contradiction | (exfalso;omega) | skip)|(refine hKo _ _ ?_)|refine wkB ?_|exact True.intro|(clear hK K)))
   refine jlx [.tmp 8,.tmp 9] ?_
   exact VToL.tup ⟨VTo.nil _ _,.same _ rfl,trivial⟩
structure Fw (c c':Ck):Prop where
 fn:c'.fn=c.fn
 fns:∀ x∈c'.fns,x∈c.fns∨x=c.fn
theorem Fw.refl (c:Ck):Fw c c:=⟨rfl,fun _ h=>.inl h⟩
theorem Fw.trans {a b c:Ck} (h:Fw a b) (k:Fw b c):Fw a c:=⟨k.fn.trans h.fn,fun x hx=>by
 rcases k.fns x hx with e | e
 ·exact h.fns x e
 ·right;rw [e,h.fn]⟩
theorem jgM {c c':Ck} (h1:c'.fn=c.fn) (h2:c'.fns=c.fns):Fw c c':=⟨h1,fun x hx=>by rw [h2] at hx;exact .inl hx⟩
theorem joD {l:List Int} {i:Nat} {x y:Int} (h:x∈l.set i y):x∈l∨x=y:=by
 rcases List.mem_or_eq_of_mem_set h with h | h
 ·exact .inl h
 ·exact .inr h
theorem jcT (c:Ck) (e a:Int):Fw c (c.fails e a):=by unfold Ck.fails;split<;>exact jgM rfl rfl
theorem jcN (c:Ck) (b:Bool) (a:Int):Fw c (c.must b a):=by unfold Ck.must;split;exact .refl _;exact jcT _ _ _
theorem jh4 (c:Ck) (a:Int):Fw c (c.named a).1:=by unfold Ck.named;split;exact jcT _ _ _;exact jgM rfl rfl
theorem jvw (c:Ck) (a t:Int):Fw c (c.note a t):=⟨rfl,fun _ h=>joD h⟩
theorem jof (c:Ck) (a:Int):Fw c (c.noteF a):=⟨rfl,fun _ h=>joD h⟩
theorem jm8 {c x y:Ck} {q:Prop} [Decidable q] (h:Fw c x) (k:Fw c y):Fw c (if q then x else y):=by split;exact h;exact k
theorem jqH {ex:Ck→Int→Ck×Int} (hx:∀ c a,Fw c (ex c a).1):∀ (L:List Int) (c:Ck) (ts:List Int),Fw c (jbV ex c L ts).1
 | [],c,ts=>by unfold jbV;exact .refl c
 | a::L,c,ts=>by
  unfold jbV
  split
  ·exact (hx c a).trans (jqH hx L _ _)
  ·exact .refl c
theorem joh (a:Int):∀ (ts:List Int) (ps:List GParam) (c:Ck),Fw c (jbx a c ts ps)
 | [],ps,c=>by rw [jcw];exact .refl c
 | _::_,[],c=>by rw [jcx];exact .refl c
 | x::ts,p::ps,c=>by
  unfold jbx
  split
  ·exact (jcN _ _ _).trans (joh a ts ps _)
  ·exact .refl c
theorem jvv {ex:Ck→Int→Ck×Int} (hx:∀ c a,Fw c (ex c a).1) (c:Ck) (a:Int):Fw c (jb3 ex c a).1:=by
 unfold jb3
 split
 ·exact jcT _ _ _
 ·simp only
  exact ((jqH hx _ c _).trans (jm8 (jcT _ _ _) (.refl _))).trans (joh _ _ _ _)
theorem jsV {ex:Ck→Int→Ck×Int} (hx:∀ c a,Fw c (ex c a).1) (c:Ck) (a:Int):Fw c (jam ex c a).1:=by
 unfold jam
 simp only
 split
 ·exact .refl c
 split
 ·exact .refl c
 split
 ·exact .refl c
 split
 ·exact jh4 _ _
 split
 ·exact jvv hx c a
 split
 ·exact ((jh4 _ _).trans (hx _ _)).trans (jcN _ _ _)
 split
 ·exact ((hx _ _).trans (hx _ _)).trans (jcN _ _ _)
 split
 ·exact (hx _ _).trans (jcN _ _ _)
 split
 ·exact (hx _ _).trans (jcN _ _ _)
 split
 ·exact (hx _ _).trans (jcN _ _ _)
 ·exact (hx _ _).trans (jcN _ _ _)
theorem jee:∀ (n:Nat) (c:Ck) (a:Int),Fw c (jac n c a).1
 | 0,c,a=>by unfold jac;exact .refl c
 | n+1,c,a=>by
  unfold jac
  split
  ·exact .refl c
  ·exact (jsV (jee n) c a).trans (jvw _ _ _)
theorem jyH {ex:Ck→Int→Ck×Int} (hx:∀ c a,Fw c (ex c a).1) (c:Ck) (a:Int):Fw c (jpJ ex c a):=by
 have hA:Fw c (je1 ex c a):=(hx c _).trans (jcN _ _ _)
 have hB:Fw (je1 ex c a) (jhs ex c a):=jm8 (jcT _ _ _) (.refl _)
 have hC:Fw (jhs ex c a) (jcv ex c a):=jm8 (jcT _ _ _) (.refl _)
 rw [jht]
 exact ((hA.trans hB).trans hC).trans (jgM rfl rfl)
theorem jpB {ex:Ck→Int→Ck×Int} (hx:∀ c a,Fw c (ex c a).1) (c:Ck) (a:Int):Fw c (jbd ex c a):=by
 unfold jbd
 simp only
 split
 ·exact jcT _ _ _
 split
 ·exact (hx _ _).trans (jcN _ _ _)
 ·exact .refl c
theorem jkU {st:Ck→Int→Ck} (hs:∀ c a,Fw c (st c a)):∀ (L:List Int) (c:Ck),Fw c (jaz st c L)
 | [],c=>by unfold jaz;exact .refl c
 | a::L,c=>by
  unfold jaz
  split
  ·exact (hs c a).trans (jkU hs L _)
  ·exact .refl c
theorem joe {st:Ck→Int→Ck} (hs:∀ c a,Fw c (st c a)) (c:Ck) (a:Int):Fw c (jaJ st c a):=by
 unfold jaJ
 simp only
 exact ((jof c a).trans (jkU hs _ _)).trans (jgM rfl rfl)
theorem jhm:∀ (n:Nat) (c:Ck) (a:Int),Fw c (jab n c a)
 | 0,c,a=>by unfold jab;exact .refl c
 | n+1,c,a=>by
  unfold jab
  simp only
  refine (jof c a).trans ?_
  split
  ·exact jyH (jee n) _ _
  split
  ·exact ((jh4 _ _).trans (jee n _ _)).trans (jcN _ _ _)
  split
  ·exact (((jh4 _ _).trans (jee n _ _)).trans (jee n _ _)).trans (jcN _ _ _)
  split
  ·exact jee n _ _
  split
  ·exact (jee n _ _).trans (jcN _ _ _)
  split
  ·exact jpB (jee n) _ _
  ·exact ((jee n _ _).trans (jcN _ _ _)).trans (jkU (fun c a=>joe (jhm n) c a) _ _)
theorem jlS (body:Int):∀ (ps:List GParam) (c:Ck) (i:Int),Fw c (jav body c ps i)
 | [],c,i=>by unfold jav;exact .refl c
 | p::ps,c,i=>by
  unfold jav
  simp only
  have h1:Fw c (if 0≤c.find p.name then c.fails 41 body else c):=jm8 (jcT c 41 body) (.refl c)
  generalize (if 0≤c.find p.name then c.fails 41 body else c)=d at *
  refine h1.trans ?_
  exact Fw.trans (b:={ d with vars:=d.vars++[⟨p.name,p.ty,i⟩],more:=d.more.drop 1,size:=d.size+1 }) (jgM rfl rfl) (jlS body ps _ _)
theorem jm7 (c:Ck) (k:Nat):∀ x∈(jar c k).fns,x∈c.fns∨x=(k:Int):=by
 have h:Fw { c with fn:=(k:Int),vars:=[],more:=[],size:=0 } (jar c k):=by
  unfold jar
  simp only
  exact ((jlS _ _ _ _).trans (jm8 (joe (jhm _) _ _) (.refl _))).trans (jgM rfl rfl)
 exact fun x hx=>h.fns x hx
theorem jhl:∀ (n i:Nat) (c:Ck),∀ x∈(jan c i n).fns,x∈c.fns∨((i:Int)≤x∧x < (i:Int)+n)
 | 0,i,c,x,hx=>by unfold jan at hx;exact .inl hx
 | n+1,i,c,x,hx=>by
  unfold jan at hx
  split at hx
  ·rcases jhl n (i+1) _ x hx with h | h
   ·rcases jm7 c i x h with h | h
    ·exact .inl h
    ·right;omega
   ·right;omega
  ·exact .inl hx
theorem jog (x:GFunc):∀ (l:List GFunc) (c:Ck),Fw c (jcL x c l)
 | [],c=>by unfold jcL;exact .refl c
 | f::l,c=>by
  unfold jcL
  exact (jm8 (jcT _ _ _) (.refl _):Fw c (if f.name=x.name then c.fails 41 x.body else c)).trans (jog x l _)
theorem jiN (fns:List GFunc):∀ (n i:Nat) (c:Ck) (m:Bool),Fw c (jcu fns c m i n).1
 | 0,i,c,m=>by unfold jcu;exact .refl c
 | n+1,i,c,m=>by
  unfold jcu
  exact (jog _ _ c).trans (jiN fns n (i+1) _ _)
theorem jsU (c:Ck):Fw c (jbX c):=by
 unfold jbX
 simp only
 exact jm8 (jiN _ _ _ _ _) ((jiN _ _ _ _ _).trans (jcT _ _ _))
theorem jsG {t:GTree} (ht:TreeOk t) (he:(jaP t).2.2=0) (h1:0 < t.fns.length):∀ x∈(jaP t).1.fn,0≤x∧x < t.fns.length:=fun x hx=>by
 unfold jaP at he hx
 split at he
 ·rename_i h;exact (h he).elim
 rename_i h
 rw [if_neg h] at hx
 have hx:x∈(jan (jbX (ck0 t)) 0 t.fns.length).fns:=hx
 rcases jhl t.fns.length 0 _ x hx with g | g
 ·rcases (jsU (ck0 t)).fns x g with g | g
  ·have g:x∈t.nodes.map fun _=>(0:Int):=g
   obtain ⟨_,_,rfl⟩:=List.mem_map.1 g
   omega
  ·have g:x=0:=g
   omega
 ·omega
theorem jrF {s:ByteArray} (he:(jaX s).2.2=0):∀ k,k < (jaX s).1.tree.nodes.length→0≤nth (jaX s).1.fn k∧nth (jaX s).1.fn k < (jaX s).1.tree.fns.length:=by
 have hok:=jrG he
 obtain ⟨j,hj,_⟩:=(jc1 he).names.main
 unfold jaX at he hok hj ⊢
 split at he
 ·rename_i h;exact (h he).elim
 rename_i h
 rw [if_neg h] at hok hj ⊢
 have h:(jaL s).2.2=0:=by omega
 simp only at he hok hj ⊢
 split at he
 ·cases he
 rename_i h2
 split at he
 ·rename_i h3;exact (h3 he).elim
 rename_i h3
 rw [if_neg h2,if_neg h3] at hok hj ⊢
 have ht:=(jkF (je4 h) (by omega)).2
 simp only at hok hj ⊢
 rw [ht] at hj ⊢
 exact fun k hk=>jsG (je4 h) (by omega) (by omega) _ (jaw (by rw [hok.fn,ht];exact hk))
theorem joP:∀ (l:List GParam) (i:Int) (x:GParam),jft (l++[x]) i=jft l i++[⟨x.name,x.ty,i+l.length⟩]
 | [],i,x=>by simp [jft]
 | y::l,i,x=>by
  have:=joP l (i+1) x
  simp only [List.cons_append,jft,this,List.length_cons]
  congr 3
  simp only [GVar.mk.injEq,true_and]
  omega
theorem jld:∀ (l:List GParam) (i:Int),(jft l i).length=l.length
 | [],i=>rfl
 | y::l,i=>by simp only [jft,List.length_cons,jld l (i+1)]
theorem jzY {p:GProg} (h:POk p) (hfn:∀ k,k < p.tree.nodes.length→0≤nth p.fn k∧nth p.fn k < p.tree.fns.length) (node:Int) (h0:0≤node) (h1:node.toNat < p.tree.nodes.length):PCall Tryz.prog 30 [.agg (jaB p),rI node] (jal jdT 3 (jlz p node)):=by
 obtain ⟨f0,f1⟩:=hfn _ h1
 have hlf:=h.fn
 have hmany:=h.tree.many
 have hft:(nth p.fn node.toNat).toNat < p.tree.fns.length:=by omega
 have hbN:=jcU h.tree hft
 have hbk:=h.tree.body _ (jaw hft)
 have hps:=(h.tree.fn _ (jaw hft)).2
 have hw:=jpe h node p.tree.nodes.length (nth p.tree.fns (nth p.fn node.toNat).toNat).body (jft (nth p.tree.fns (nth p.fn node.toNat).toNat).params 0) hbN.1 (by have:=hbN.1;have:=hbN.2;omega) (by have:=hbN.1;have:=hbN.2;omega) hbk (by rw [jld];have:=hbN.1;have:=hbN.2;omega)
 unfold jlz
 generalize jbp p node p.tree.nodes.length (nth p.tree.fns (nth p.fn node.toNat).toNat).body (jft (nth p.tree.fns (nth p.fn node.toNat).toNat).params 0)=O at *
 generalize hF:nth p.fn node.toNat=g at *
 generalize hG:nth p.tree.fns g.toNat=f at *
 refine jb9 Tryz.func30 Tryz.ntmps30 ?_
 (have W:=And.intro hF (hG);repeat' (first|refine jaa fun K hK=>?_|refine wkA ?_|(with_reducible refine gR 1 ?_);refine dE 1 [0,1,2,3,4,5,6,7,8,9,10,11] mixed ?_|(refine hK _ _ ?_;clear hK K)|(refine jae (fun hc=>?_) (fun hc=>?_)<;>first | contradiction | (exfalso;omega) | skip)|refine bx 0 ?_|refine al 1 ?_|refine wkB ?_|exact True.intro|(clear hK K)));all_goals (try clear W)
 have hKo:=hK;clear hK
 have hpl:∀ k,(jft (f.params.take k) 0).length=min k f.params.length:=fun k=>by rw [jld];simp
 refine jah (S:=Nat) [(6,2),(21,24)] (fun k=>k≤f.params.length) (fun k=>[(6,.rs 2 k 3 k),(7,rI k)]) (fun k=>⟨[],[(0,.var 29 (jaB p)),(1,.var 100 (ja8 f)),(2,.vec 63 3 ((jft (f.params.take k) 0).map jdT))]⟩) (fun k=>f.params.length - k) 0 (by omega) (jaH rfl lle) ?_
 rintro k hk Kr hKr
 have hkl:(jft (f.params.take k) 0).length=k:=by rw [hpl];omega
 by_cases hlt:k < f.params.length
 ·(refine S ?_;try exact True.intro)
  (have W:=hkl;repeat' (first|refine jaa fun K hK=>?_|refine wkA ?_|(with_reducible refine gR 6 ?_);refine dE 6 [0,1,2,3,4,5,6,7,8,9,10,11,12,13,14,15,16,17] mixed ?_|(refine hK _ _ ?_;clear hK K)|(refine jae (fun hc=>?_) (fun hc=>?_)<;>first | contradiction | (exfalso;omega) | skip)|refine wkB ?_|exact True.intro|(clear hK K)));all_goals (try clear W)
  refine hKr _ _ (jaD (k+1) (by omega) (by show f.params.length - (k+1) < f.params.length - k;omega) ?_ lle)
  show Hp.mk _ [_,_,_]=Hp.mk _ [_,_,(2,.vec _ _ ((jft (f.params.take (k+1)) 0).map jdT))]
  rw [jgv hlt,joP,List.map_append]
  have:((0:Int)+(f.params.take k).length)=(k:Int):=by simp;omega
  rw [this]
  rfl
 ·have hke:k=f.params.length:=by omega
  subst hke
  rw [List.take_length] at hkl ⊢
  (refine S ?_;try exact True.intro)
  (have W:=hkl;repeat' (first|refine jis (id:=7) [2] [(20,1)] [(6,jal jdT 3 (jft f.params 0))] ?_|refine jaa fun K hK=>?_|refine wkA ?_|(refine hK _ _ ?_;clear hK K)|(refine jae (fun hc=>?_) (fun hc=>?_)<;>first | contradiction | (exfalso;omega) | skip)|refine cp (hw) ?_|(refine hKo _ _ ?_)|refine wkB ?_|exact True.intro|(clear hK K)));all_goals (try clear W)
  (refine ja2 [.tmp 4] ?_;try simp only [go_sem])
theorem jvT {p:GProg} (h:POk p) (b:Int):(jag p b).l.length≤300:=by
 have hm:=h.tree.many
 by_cases hb:b.toNat < p.tree.nodes.length
 ·obtain ⟨lo,hc⟩:=(h.tree.shape b.toNat hb).2.2
  have:=jiv hc
  show (nth p.tree.nodes b.toNat).l.length≤300
  omega
 ·unfold jag nth
  rw [List.getD_eq_getElem?_getD,List.getElem?_eq_none (by omega)]
  exact Nat.zero_le _
structure AtAll (p:GProg) (s:GState):Prop where
 pa:∀ k,k < s.frames.length→1≤(nth s.frames k).path.length∧(nth s.frames k).path.length≤1000
 b:∀ k,k < s.frames.length→0≤(nth s.frames k).pl.block∧(nth s.frames k).pl.block.toNat < p.tree.nodes.length
 at_:∀ k,k < s.frames.length→0≤(nth s.frames k).pl.at_∧(nth s.frames k).pl.at_ < (jag p (nth s.frames k).pl.block).l.length
end Go.Proofs.YtfkgcobaheegbaaGreatDoor
namespace Go.Gd
open Go
theorem jkt {p:GProg} {node:Int} (hl:∀ b,(jag p b).l.length≤300):∀ (n:Nat) (b:Int) (vars r:List GVar),jbp p node n b vars=some r→r.length≤vars.length+300 * n
 | 0,b,vars,r,h=>by cases h
 | n+1,b,vars,r,h=>by
  have ih:=jkt (node:=node) hl n
  have kid:∀ (l:List Int) (vs r:List GVar),jgQ (jbp p node n) vs l=some r→r.length≤vs.length+300 * n:=fun l=>by
   induction l with
   | nil=>intro vs r h;cases h
   | cons b l ihl=>
    intro vs r h
    unfold jgQ at h
    cases e:jbp p node n b vs with
    | none=>rw [e] at h;exact ihl vs r h
    | some R=>rw [e] at h;cases h;exact ih b vs _ e
  have sc:∀ (l:List Int) (vs r:List GVar),jd5 (jbp p node n) p node l vs=some r→r.length≤vs.length+l.length+300 * n:=fun l=>by
   induction l with
   | nil=>intro vs r h;cases h
   | cons x l ihl=>
    intro vs r h
    have hlet:(jk3 p x vs).length≤vs.length+1:=by unfold jk3;split<;>simp
    unfold jd5 at h
    simp only [List.length_cons]
    split at h
    ·cases h;omega
    ·cases e:(if (jag p x).kind=15∨(jag p x).kind=16 then jgQ (jbp p node n) (jk3 p x vs) ((jag p x).l.drop 1) else none) with
     | none=>rw [e] at h;have:=ihl _ r h;omega
     | some R=>
      rw [e] at h
      cases h
      split at e
      ·have:=kid _ _ _ e;omega
      ·cases e
  have:=sc _ _ _ h
  have:=hl b
  omega
end Go.Gd
namespace Go.Proofs.YtfkgcobaheegbaaGreatDoor
open Go Go.Gd
theorem jwP {p:GProg} (h:POk p) (hfn:∀ k,k < p.tree.nodes.length→0≤nth p.fn k∧nth p.fn k < p.tree.fns.length) {node:Int} (h1:node.toNat < p.tree.nodes.length):(jlz p node).length≤100000:=by
 obtain ⟨f0,f1⟩:=hfn _ h1
 have hft:(nth p.fn node.toNat).toNat < p.tree.fns.length:=by omega
 have hps:=(h.tree.fn _ (jaw hft)).2
 have hm:=h.tree.many
 unfold jlz
 cases e:jbp p node p.tree.nodes.length (nth p.tree.fns (nth p.fn node.toNat).toNat).body (jft (nth p.tree.fns (nth p.fn node.toNat).toNat).params 0) with
 | none=>exact Nat.zero_le _
 | some R=>
  have:=jkt (jvT h) _ _ _ _ e
  rw [jld] at this
  show R.length≤_
  omega
end Go.Proofs.YtfkgcobaheegbaaGreatDoor

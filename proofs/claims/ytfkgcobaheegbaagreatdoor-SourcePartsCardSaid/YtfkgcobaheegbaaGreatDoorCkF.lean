/- The document's checker: its small methods. The plain law of the document's checker: what looking at expressions leaves as it was. The document's checker: expressions. The document's checker: calls. The plain law of the document's checker: what looking at statements leaves as it was. No conditions. -/
import Derived.Test.YtfkgcobaheegbaaGreatDoorP8
import Derived.Test.YtfkgcobaheegbaaGreatDoorEvS
set_option linter.all false
namespace Go.Proofs.YtfkgcobaheegbaaGreatDoor
open Go Go.Gd
def jgl (c:Ck):List AV:=[jal jao 5 c.tree.nodes,jal jbe 5 c.tree.fns,.rs 1 c.types.length 1 c.types.length,.rs 2 c.slots.length 1 c.slots.length,.rs 3 c.fns.length 1 c.fns.length,.rs 4 c.size_.length 1 c.size_.length,rI c.fn,.rs 5 (c.vars.length+c.more.length) 3 c.vars.length,rI c.size,rI c.e,rI c.at_]
def jdE (c:Ck):List (Nat×Row):=[(0,.var 172 (jgl c)),(1,.vec 3 1 (c.types.map eI)),(2,.vec 3 1 (c.slots.map eI)),(3,.vec 3 1 (c.fns.map eI)),(4,.vec 3 1 (c.size_.map eI)),(5,.vec 63 3 ((c.vars++c.more).map jkX))]
attribute [go_sem] jdE jgl Ck.slot Ck.note Ck.noteF
structure CkIn (c:Ck):Prop where
 tree:TreeOk c.tree
 types:c.types.length=c.tree.nodes.length
 slots:c.slots.length=c.tree.nodes.length
 fns:c.fns.length=c.tree.nodes.length
 size_:c.size_.length≤6
 flo:0≤c.fn
 fhi:c.fn < c.tree.fns.length
 vars:(c.vars.length:Int)≤c.size
 size:c.size≤25
 room:c.e=0→c.size≤24
theorem jj6 {α:Type} (f:α→ByteArray) (nm:ByteArray):∀ (l:List α) (i:Int),0≤i→(jcR f nm l i=-1∧∀ v∈l,f v≠nm)∨(i≤jcR f nm l i∧jcR f nm l i < i+l.length)
 | [],i,_=>.inl ⟨rfl,fun v hv=>by simp at hv⟩
 | v::l,i,hi=>by
  unfold jcR
  by_cases h:f v=nm
  ·rw [if_pos h];exact .inr (by simp;omega)
  ·rw [if_neg h]
   rcases jj6 f nm l (i+1) (by omega) with ⟨h1,h2⟩ | h1
   ·exact .inl ⟨h1,fun u hu=>by
     rcases List.mem_cons.1 hu with rfl | hu
     ·exact h
     ·exact h2 u hu⟩
   ·exact .inr (by simp;omega)
theorem jbz {α:Type} [Inhabited α] {l:List α} {i:Nat} (h:i < l.length):l.drop i=nth l i::l.drop (i+1):=by
 rw [jbl h];exact List.drop_eq_getElem_cons h
set_option maxHeartbeats 1000000 in
set_option maxRecDepth 10000 in
theorem jdv (c:Ck) (e a:Int):ACalls Tryz.prog 150 [pR,rI e,rI a] (jdE c) (fun v l=>v=.tup []∧l=jdE (c.fails e a)):=by
 refine jaw Tryz.func150 Tryz.ntmps150 ?_
 (refine S ?_;try exact True.intro)
 (repeat' (first|refine jaa fun K hK=>?_|refine wkA ?_|(refine hK _ _ ?_;clear hK K)|(refine jad (fun hc=>?_) (fun hc=>?_)<;>first | contradiction | (exfalso;omega) | skip)|refine wkB ?_|exact True.intro|(clear hK K)))
 ·(refine jbM [] ?_ ?_<;>(try simp only [go_sem]))
  simp only [Ck.fails,if_pos hc,jdE,jgl]
 ·(refine jbM [] ?_ ?_<;>(try simp only [go_sem]))
  simp only [Ck.fails,if_neg hc,jdE,jgl]
set_option maxHeartbeats 1000000 in
set_option maxRecDepth 10000 in
theorem jmw (c:Ck) (nm:ByteArray) (h:CkIn c):ACalls Tryz.prog 151 [pR,rS nm] (jdE c) (fun v l=>v=rI (c.find nm)∧l=jdE c):=by
 have h1:=h.vars
 have h2:=h.size
 refine jaw Tryz.func151 Tryz.ntmps151 ?_
 (refine S ?_;try exact True.intro)
 (repeat' (first|refine jaa fun K hK=>?_|refine wkA ?_|(refine hK _ _ ?_;clear hK K)|(refine jad (fun hc=>?_) (fun hc=>?_)<;>first | contradiction | (exfalso;omega) | skip)|refine wkB ?_|exact True.intro|(clear hK K)))
 have hKo:=hK;clear hK
 refine jah (S:=Nat) [(4,22)] (fun k=>k≤c.vars.length∧jcR GVar.name nm (c.vars.drop k) k=c.find nm) (fun k=>[(5,rI k)]) (fun _=>⟨[0,1,2,3,4,5],jdE c⟩) (fun k=>c.vars.length - k) 0 ⟨by omega,rfl⟩ (jaE (by simp only [go_sem]) lle) ?_
 rintro k ⟨hk1,hk2⟩ Kr hKr
 (refine S ?_;try exact True.intro)
 by_cases hk:k < c.vars.length
 ·rw [jbz hk] at hk2
  unfold jcR at hk2
  have hap:nth (c.vars++c.more) k=nth c.vars k:=jbb hk
  (have W:=hap;repeat' (first|refine jaa fun K hK=>?_|refine wkA ?_|(refine hK _ _ ?_;clear hK K)|(refine jad (fun hc=>?_) (fun hc=>?_)<;>first | contradiction | (exfalso;omega) | skip)|refine wkB ?_|exact True.intro|(clear hK K)));all_goals (try clear W)
  ·(refine jbM [.tmp 4] ?_ ?_<;>(try simp only [go_sem]))
   rw [if_pos hc] at hk2
   rw [← hk2]
  ·rw [if_neg hc] at hk2
   refine hKr _ _ (jau (k+1) ⟨by omega,by rw [← hk2];rfl⟩ (by (try simp only);omega) (by simp only [go_sem]) lle)
 ·rw [List.drop_eq_nil_of_le (by omega)] at hk2
  (repeat' (first|refine jaa fun K hK=>?_|refine wkA ?_|(refine hK _ _ ?_;clear hK K)|(refine jad (fun hc=>?_) (fun hc=>?_)<;>first | contradiction | (exfalso;omega) | skip)|(refine hKo _ _ ?_)|refine wkB ?_|exact True.intro|(clear hK K)))
  (refine jbM [.tmp 4] ?_ ?_<;>(try simp only [go_sem]))
  rw [← hk2];rfl
set_option maxHeartbeats 1000000 in
set_option maxRecDepth 10000 in
theorem jcF (c:Ck) (b:Bool) (a:Int):ACalls Tryz.prog 253 [pR,rB b,rI a] (jdE c) (fun v l=>v=.tup []∧l=jdE (c.must b a)):=by
 refine jaw Tryz.func253 Tryz.ntmps253 ?_
 (refine S ?_;try exact True.intro)
 (repeat' (first|refine jaa fun K hK=>?_|refine wkA ?_|(refine hK _ _ ?_;clear hK K)|(refine jad (fun hc=>?_) (fun hc=>?_)<;>first | contradiction | (exfalso;omega) | skip)|refine cm (jdv c 42 a) ?_|refine wkB ?_|exact True.intro|(clear hK K)))
 ·(refine jbM [] ?_ ?_<;>(try simp only [go_sem]))
  simp only [Ck.must,hc,Bool.false_eq_true,if_false,jdE,jgl]
 ·(refine jbM [] ?_ ?_<;>(try simp only [go_sem]))
  simp only [Ck.must,hc,if_true,jdE,jgl]
theorem jgm {c:Ck} (h:CkIn c) {a:Int} (h0:0≤a) (h1:a < c.tree.nodes.length):Shape c.tree.nodes (c.node a)∧∀ x∈(c.node a).l,0≤x∧x.toNat < a.toNat:=by
 have:=h.tree.shape a.toNat (by omega)
 exact ⟨this.1,this.2.1⟩
theorem jng {c:Ck} (h:CkIn c) {a:Int} (h0:0≤a) (h1:a < c.tree.nodes.length):(c.node a).l.length≤300:=by
 obtain ⟨_,_,lo,hc⟩:=h.tree.shape a.toNat (by omega)
 have:=hc.len
 have:=h.tree.many
 show (nth c.tree.nodes a.toNat).l.length≤300
 omega
set_option maxHeartbeats 1000000 in
set_option maxRecDepth 10000 in
theorem jnz (c:Ck) (a:Int) (h:CkIn c) (h0:0≤a) (h1:a < c.tree.nodes.length):ACalls Tryz.prog 251 [pR,rI a] (jdE c) (fun v l=>v=rI (c.named a).2∧l=jdE (c.named a).1):=by
 have hv:=h.vars
 have hz:=h.size
 have hsl:=h.slots
 have hfd:=jj6 GVar.name (c.node a).name c.vars 0 (by omega)
 have hfc:=jmw c (c.node a).name h
 have hfa:=jdv c 40 a
 have hap:0≤c.find (c.node a).name→nth (c.vars++c.more) (c.find (c.node a).name).toNat=nth c.vars (c.find (c.node a).name).toNat:=fun h=>jbb (by
  have hfd:(c.find (c.node a).name=-1∧_)∨(0≤c.find (c.node a).name∧c.find (c.node a).name < 0+c.vars.length):=hfd
  omega)
 have hfd:(c.find (c.node a).name=-1∧_)∨(0≤c.find (c.node a).name∧c.find (c.node a).name < 0+c.vars.length):=hfd
 unfold Ck.named
 by_cases hf:c.find (c.node a).name < 0
 ·rw [if_pos hf]
  refine jaw Tryz.func251 Tryz.ntmps251 ?_
  (refine S ?_;try exact True.intro)
  (repeat' (first|refine jaa fun K hK=>?_|refine wkA ?_|(refine hK _ _ ?_;clear hK K)|(refine jad (fun hc=>?_) (fun hc=>?_)<;>first | contradiction | (exfalso;omega) | skip)|refine cm (hfc) ?_|refine cm (hfa) ?_|refine wkB ?_|exact True.intro|(clear hK K)))
  (refine jbM [.tmp 4] ?_ ?_<;>(try simp only [go_sem]))
 ·rw [if_neg hf]
  have hap:=hap (by omega)
  refine jaw Tryz.func251 Tryz.ntmps251 ?_
  (refine S ?_;try exact True.intro)
  (have W:=hap;repeat' (first|refine jaa fun K hK=>?_|refine wkA ?_|(with_reducible refine gR 5 ?_);refine dE 5 [0,1,2,3,4,5,6,7,8,9,10,11,12,13,14,15] mixed ?_|(refine hK _ _ ?_;clear hK K)|(refine jad (fun hc=>?_) (fun hc=>?_)<;>first | contradiction | (exfalso;omega) | skip)|refine cm (hfc) ?_|refine wkB ?_|exact True.intro|(clear hK K)));all_goals (try clear W)
  (refine jbM [.tmp 4] ?_ ?_<;>(try simp only [go_sem]))
structure Ev (c c':Ck):Prop where
 tree:c'.tree=c.tree
 fn:c'.fn=c.fn
 vars:c'.vars=c.vars
 more:c'.more=c.more
 size:c'.size=c.size
 size_:c'.size_=c.size_
 types:c'.types.length=c.types.length
 slots:c'.slots.length=c.slots.length
 fns:c'.fns.length=c.fns.length
 err:c.e≠0→c'.e≠0
theorem Ev.refl (c:Ck):Ev c c:=⟨rfl,rfl,rfl,rfl,rfl,rfl,rfl,rfl,rfl,id⟩
theorem Ev.trans {a b c:Ck} (h:Ev a b) (k:Ev b c):Ev a c:=⟨k.tree.trans h.tree,k.fn.trans h.fn,k.vars.trans h.vars,k.more.trans h.more,k.size.trans h.size,k.size_.trans h.size_,k.types.trans h.types,k.slots.trans h.slots,k.fns.trans h.fns,fun e=>k.err (h.err e)⟩
theorem CkIn.ev {c c':Ck} (h:CkIn c) (s:Ev c c'):CkIn c' where
 tree:=by rw [s.tree];exact h.tree
 types:=by rw [s.types,s.tree];exact h.types
 slots:=by rw [s.slots,s.tree];exact h.slots
 fns:=by rw [s.fns,s.tree];exact h.fns
 size_:=by rw [s.size_];exact h.size_
 flo:=by rw [s.fn];exact h.flo
 fhi:=by rw [s.fn,s.tree];exact h.fhi
 vars:=by rw [s.vars,s.size];exact h.vars
 size:=by rw [s.size];exact h.size
 room:=fun e=>by rw [s.size];exact h.room (Classical.byContradiction fun h=>s.err h e)
theorem Ev.node {c c':Ck} (s:Ev c c') (a:Int):c'.node a=c.node a:=by unfold Ck.node;rw [s.tree]
theorem Ev.kid {c c':Ck} (s:Ev c c') (a:Int) (i:Nat):c'.kid a i=c.kid a i:=by unfold Ck.kid;rw [s.node]
theorem jbZ (c:Ck) {e:Int} (he:e≠0) (a:Int):Ev c (c.fails e a):=by
 unfold Ck.fails
 split
 ·exact ⟨rfl,rfl,rfl,rfl,rfl,rfl,rfl,rfl,rfl,fun _=>he⟩
 ·exact .refl c
theorem jbF (c:Ck) (b:Bool) (a:Int):Ev c (c.must b a):=by
 unfold Ck.must
 split
 ·exact .refl c
 ·exact jbZ c (by decide) a
theorem juK (c:Ck) (a s:Int):Ev c (c.slot a s):=⟨rfl,rfl,rfl,rfl,rfl,rfl,rfl,by simp [Ck.slot],rfl,id⟩
theorem juJ (c:Ck) (a t:Int):Ev c (c.note a t):=⟨rfl,rfl,rfl,rfl,rfl,rfl,by simp [Ck.note],rfl,by simp [Ck.note],id⟩
theorem jc2 (c:Ck) (a:Int):Ev c (c.noteF a):=⟨rfl,rfl,rfl,rfl,rfl,rfl,rfl,rfl,by simp [Ck.noteF],id⟩
theorem jb0 (c:Ck) (a:Int):Ev c (c.named a).1:=by
 unfold Ck.named
 split
 ·exact jbZ c (by decide) a
 ·exact juK c a _
theorem jfi {ex:Ck→Int→Ck×Int} (hex:∀ c a,Ev c (ex c a).1):∀ (l:List Int) (c:Ck) (ts:List Int),Ev c (jcu ex c l ts).1
 | [],c,ts=>by unfold jcu;exact .refl c
 | a::l,c,ts=>by
  unfold jcu
  split
  ·exact (hex c a).trans (jfi hex l _ _)
  ·exact .refl c
theorem jhx (a:Int):∀ (ts:List Int) (ps:List GParam) (c:Ck),Ev c (jbV a c ts ps)
 | [],_,c=>by unfold jbV;exact .refl c
 | _::_,[],c=>by unfold jbV;exact .refl c
 | t::ts,p::ps,c=>by
  unfold jbV
  split
  ·exact (jbF c _ a).trans (jhx a ts ps _)
  ·exact .refl c
theorem juI {ex:Ck→Int→Ck×Int} (hex:∀ c a,Ev c (ex c a).1) (c:Ck) (a:Int):Ev c (jdo ex c a).1:=by
 unfold jdo
 split
 ·exact jbZ c (by decide) a
 ·refine Ev.trans ?_ (jhx _ _ _ _)
  split
  ·exact (jfi hex _ _ _).trans (jbZ _ (by decide) a)
  ·exact jfi hex _ _ _
theorem jjZ {ex:Ck→Int→Ck×Int} (hex:∀ c a,Ev c (ex c a).1) (c:Ck) (a:Int):Ev c (jap ex c a).1:=by
 unfold jap
 simp only
 repeat' split
 all_goals first
  | exact .refl c
  | exact jb0 c a
  | exact juI hex c a
  | exact ((jb0 c a).trans (hex _ _)).trans (jbF _ _ _)
  | exact ((hex c _).trans (hex _ _)).trans (jbF _ _ _)
  | exact (hex c _).trans (jbF _ _ _)
theorem jaA:∀ (n:Nat) (c:Ck) (a:Int),Ev c (jae n c a).1
 | 0,c,a=>by unfold jae;exact .refl c
 | n+1,c,a=>by
  unfold jae
  split
  ·exact .refl c
  ·exact (jjZ (jaA n) c a).trans (juJ _ _ _)
def jhM (n:Nat):Prop:=∀ (c:Ck) (a:Int),CkIn c→0≤a→a < c.tree.nodes.length→a.toNat < n→isR (c.node a).kind→ACalls Tryz.prog 252 [pR,rI a] (jdE c) (fun v l=>v=rI (jae n c a).2∧l=jdE (jae n c a).1)
def jps (n:Nat):Prop:=∀ (c:Ck) (a:Int),CkIn c→c.e=0→0≤a→a < c.tree.nodes.length→a.toNat≤n→isR (c.node a).kind→ACalls Tryz.prog 272 [pR,rI a] (jdE c) (fun v l=>v=rI (jap (jae n) c a).2∧l=jdE (jap (jae n) c a).1)
def jtg (n:Nat):Prop:=∀ (c:Ck) (a:Int),CkIn c→0≤a→a < c.tree.nodes.length→a.toNat≤n→(c.node a).kind=21→ACalls Tryz.prog 284 [pR,rI a] (jdE c) (fun v l=>v=rI (jdo (jae n) c a).2∧l=jdE (jdo (jae n) c a).1)
set_option maxHeartbeats 1000000 in
set_option maxRecDepth 10000 in
theorem jxX (s:ByteArray) (a b:Int):PCall Tryz.prog 285 [rS s,rI a,rI b] (rI (jgT s a b)):=by
 refine jbA Tryz.func285 Tryz.ntmps285 ?_
 (repeat' (first|refine jaa fun K hK=>?_|refine wkA ?_|(refine hK _ _ ?_;clear hK K)|(refine jad (fun hc=>?_) (fun hc=>?_)<;>first | contradiction | (exfalso;omega) | skip)|refine wkB ?_|exact True.intro|(clear hK K)))
 all_goals (refine jbM [.tmp 6] ?_ ?_<;>(try simp only [go_sem]))
 all_goals simp_all [jgT]
 all_goals omega
set_option maxHeartbeats 1000000 in
set_option maxRecDepth 10000 in
theorem juX (n:Nat) (ht:jps n):jhM (n+1):=by
 intro c a h h0 h1 hn hk
 have hz:=h.size
 have hv:=h.vars
 by_cases he:c.e=0
 ·have htc:=ht c a h he h0 h1 (by omega) hk
  have s:=jjZ (jaA n) c a
  have h2:=h.ev s
  have l1:=h2.types
  have l2:=h2.fns
  rw [s.tree] at l1 l2
  rw [jae,if_neg (by omega)]
  refine jaw Tryz.func252 Tryz.ntmps252 ?_
  (refine S ?_;try exact True.intro)
  (repeat' (first|refine jaa fun K hK=>?_|refine wkA ?_|(with_reducible refine gR 5 ?_);refine dE 5 [0,1,2,3,4,5,6,7,8,9,10,11] mixed ?_|(refine hK _ _ ?_;clear hK K)|(refine jad (fun hc=>?_) (fun hc=>?_)<;>first | contradiction | (exfalso;omega) | skip)|refine cm (htc) ?_|refine wkB ?_|exact True.intro|(clear hK K)))
  (refine jbM [.tmp 4] ?_ ?_<;>(try simp only [go_sem]))
 ·rw [jae,if_pos he]
  refine jaw Tryz.func252 Tryz.ntmps252 ?_
  (refine S ?_;try exact True.intro)
  (repeat' (first|refine jaa fun K hK=>?_|refine wkA ?_|(refine hK _ _ ?_;clear hK K)|(refine jad (fun hc=>?_) (fun hc=>?_)<;>first | contradiction | (exfalso;omega) | skip)|refine wkB ?_|exact True.intro|(clear hK K)))
  (refine jbM [.tmp 4] ?_ ?_<;>(try simp only [go_sem]))
set_option maxHeartbeats 4000000 in
set_option maxRecDepth 10000 in
theorem jsm (n:Nat) (hx:jhM n) (hcall:jtg n):jps n:=by
 intro c a h he h0 h1 hn hk
 have hz:=h.size
 have hv:=h.vars
 obtain ⟨sh,hkid⟩:=jgm h h0 h1
 have hmem:∀ i,i < (c.node a).l.length→(c.kid a i).toNat < n∧0≤c.kid a i∧c.kid a i < c.tree.nodes.length:=fun i hi=>by
  have hm:c.kid a i∈(c.node a).l:=jaP hi
  have:=hkid _ hm
  omega
 have ev0:=jb0 c a
 have hn0:=h.ev ev0
 have hnm:=jnz c a h h0 h1
 unfold isR isE at hk
 have e19:(c.node a).kind=1∨(c.node a).kind=19∨(c.node a).kind=2∨(c.node a).kind=3∨(c.node a).kind=4∨(c.node a).kind=21∨(c.node a).kind=5∨(c.node a).kind=9∨(c.node a).kind=6∨(c.node a).kind=7∨(c.node a).kind=8∨(c.node a).kind=20:=by omega
 rcases e19 with k | k | k | k | k | k | k | k | k | k | k | k
 ·have hk':(nth c.tree.nodes a.toNat).kind=1:=k
  rw [show jap (jae n) c a=(c,1) from by unfold jap;rw [k];rfl]
  refine jaw Tryz.func272 Tryz.ntmps272 ?_
  (refine S ?_;try exact True.intro)
  (have W:=hk';repeat' (first|refine jaa fun K hK=>?_|refine wkA ?_|(refine hK _ _ ?_;clear hK K)|(refine jad (fun hc=>?_) (fun hc=>?_)<;>first | contradiction | (exfalso;omega) | skip)|refine wkB ?_|exact True.intro|(clear hK K)));all_goals (try clear W)
  (refine jaN [.tmp 4] ?_;try simp only [go_sem])
 ·have hk':(nth c.tree.nodes a.toNat).kind=19:=k
  rw [show jap (jae n) c a=(c,1) from by unfold jap;rw [k];rfl]
  refine jaw Tryz.func272 Tryz.ntmps272 ?_
  (refine S ?_;try exact True.intro)
  (have W:=hk';repeat' (first|refine jaa fun K hK=>?_|refine wkA ?_|(refine hK _ _ ?_;clear hK K)|(refine jad (fun hc=>?_) (fun hc=>?_)<;>first | contradiction | (exfalso;omega) | skip)|refine wkB ?_|exact True.intro|(clear hK K)));all_goals (try clear W)
  (refine jaN [.tmp 4] ?_;try simp only [go_sem])
 ·have hk':(nth c.tree.nodes a.toNat).kind=2:=k
  rw [show jap (jae n) c a=(c,2) from by unfold jap;rw [k];rfl]
  refine jaw Tryz.func272 Tryz.ntmps272 ?_
  (refine S ?_;try exact True.intro)
  (have W:=hk';repeat' (first|refine jaa fun K hK=>?_|refine wkA ?_|(refine hK _ _ ?_;clear hK K)|(refine jad (fun hc=>?_) (fun hc=>?_)<;>first | contradiction | (exfalso;omega) | skip)|refine wkB ?_|exact True.intro|(clear hK K)));all_goals (try clear W)
  (refine jaN [.tmp 4] ?_;try simp only [go_sem])
 ·have hk':(nth c.tree.nodes a.toNat).kind=3:=k
  rw [show jap (jae n) c a=(c,3) from by unfold jap;rw [k];rfl]
  refine jaw Tryz.func272 Tryz.ntmps272 ?_
  (refine S ?_;try exact True.intro)
  (have W:=hk';repeat' (first|refine jaa fun K hK=>?_|refine wkA ?_|(refine hK _ _ ?_;clear hK K)|(refine jad (fun hc=>?_) (fun hc=>?_)<;>first | contradiction | (exfalso;omega) | skip)|refine wkB ?_|exact True.intro|(clear hK K)));all_goals (try clear W)
  (refine jaN [.tmp 4] ?_;try simp only [go_sem])
 ·have hk':(nth c.tree.nodes a.toNat).kind=4:=k
  rw [show jap (jae n) c a=c.named a from by unfold jap;rw [k];rfl]
  refine jaw Tryz.func272 Tryz.ntmps272 ?_
  (refine S ?_;try exact True.intro)
  (have W:=hk';repeat' (first|refine jaa fun K hK=>?_|refine wkA ?_|(refine hK _ _ ?_;clear hK K)|(refine jad (fun hc=>?_) (fun hc=>?_)<;>first | contradiction | (exfalso;omega) | skip)|refine cm (hnm) ?_|refine wkB ?_|exact True.intro|(clear hK K)));all_goals (try clear W)
  (refine jaN [.tmp 4] ?_;try simp only [go_sem])
 ·have hk':(nth c.tree.nodes a.toNat).kind=21:=k
  rw [show jap (jae n) c a=jdo (jae n) c a from by unfold jap;rw [k];rfl]
  have hcl:=hcall c a h h0 h1 hn k
  refine jaw Tryz.func272 Tryz.ntmps272 ?_
  (refine S ?_;try exact True.intro)
  (have W:=hk';repeat' (first|refine jaa fun K hK=>?_|refine wkA ?_|(refine hK _ _ ?_;clear hK K)|(refine jad (fun hc=>?_) (fun hc=>?_)<;>first | contradiction | (exfalso;omega) | skip)|refine cm (hcl) ?_|refine wkB ?_|exact True.intro|(clear hK K)));all_goals (try clear W)
  (refine jaN [.tmp 4] ?_;try simp only [go_sem])
 ·have hk':(nth c.tree.nodes a.toNat).kind=5:=k
  obtain ⟨x,hl,hxe⟩:=sh.one (by omega)
  have hl1:(c.node a).l.length=1:=by rw [hl];rfl
  have hl':(nth c.tree.nodes a.toNat).l.length=1:=hl1
  obtain ⟨g1,g2,g3⟩:=hmem 0 (by omega)
  have hkx:isR (c.node (c.kid a 0)).kind:=by
   have:c.kid a 0=x:=by unfold Ck.kid;rw [hl];rfl
   rw [this];exact .inl hxe
  have hex:=hx (c.named a).1 (c.kid a 0) hn0 g2 (by rw [ev0.tree];exact g3) g1 (by rw [ev0.node];exact hkx)
  have hm:=jcF (jae n (c.named a).1 (c.kid a 0)).1 (decide ((c.named a).2=4) && decide ((jae n (c.named a).1 (c.kid a 0)).2=1)) a
  rw [show jap (jae n) c a=((jae n (c.named a).1 (c.kid a 0)).1.must (decide ((c.named a).2=4) && decide ((jae n (c.named a).1 (c.kid a 0)).2=1)) a,1) from by unfold jap;rw [k];rfl]
  refine jaw Tryz.func272 Tryz.ntmps272 ?_
  (refine S ?_;try exact True.intro)
  (have W:=hk';repeat' (first|refine jaa fun K hK=>?_|refine wkA ?_|(refine hK _ _ ?_;clear hK K)|(refine jad (fun hc=>?_) (fun hc=>?_)<;>first | contradiction | (exfalso;omega) | skip)|refine cm (hnm) ?_|refine cm (hex) ?_|refine cm (hm) ?_|refine wkB ?_|exact True.intro|(clear hK K)));all_goals (try clear W)
  (refine jaN [.tmp 4] ?_;try simp only [go_sem])
 ·have hk':(nth c.tree.nodes a.toNat).kind=9:=k
  obtain ⟨x,y,hl,hxe,hye⟩:=sh.two (by omega)
  have hl1:(c.node a).l.length=2:=by rw [hl];rfl
  have hl':(nth c.tree.nodes a.toNat).l.length=2:=hl1
  obtain ⟨g1,g2,g3⟩:=hmem 0 (by omega)
  obtain ⟨g4,g5,g6⟩:=hmem 1 (by omega)
  have hkx:isR (c.node (c.kid a 0)).kind:=by
   have:c.kid a 0=x:=by unfold Ck.kid;rw [hl];rfl
   rw [this];exact .inl hxe
  have hky:isR (c.node (c.kid a 1)).kind:=by
   have:c.kid a 1=y:=by unfold Ck.kid;rw [hl];rfl
   rw [this];exact .inl hye
  have ev1:=jaA n c (c.kid a 0)
  have hex:=hx c (c.kid a 0) h g2 g3 g1 hkx
  have hey:=hx (jae n c (c.kid a 0)).1 (c.kid a 1) (h.ev ev1) g5 (by rw [ev1.tree];exact g6) g4 (by rw [ev1.node];exact hky)
  have hb:=jxX (c.node a).name (jae n c (c.kid a 0)).2 (jae n (jae n c (c.kid a 0)).1 (c.kid a 1)).2
  have hm:=jcF (jae n (jae n c (c.kid a 0)).1 (c.kid a 1)).1 (!decide (jgT (c.node a).name (jae n c (c.kid a 0)).2 (jae n (jae n c (c.kid a 0)).1 (c.kid a 1)).2=0)) a
  rw [show jap (jae n) c a=((jae n (jae n c (c.kid a 0)).1 (c.kid a 1)).1.must (!decide (jgT (c.node a).name (jae n c (c.kid a 0)).2 (jae n (jae n c (c.kid a 0)).1 (c.kid a 1)).2=0)) a,jgT (c.node a).name (jae n c (c.kid a 0)).2 (jae n (jae n c (c.kid a 0)).1 (c.kid a 1)).2) from by unfold jap;rw [k];rfl]
  refine jaw Tryz.func272 Tryz.ntmps272 ?_
  (refine S ?_;try exact True.intro)
  (have W:=hk';repeat' (first|refine jaa fun K hK=>?_|refine wkA ?_|(refine hK _ _ ?_;clear hK K)|(refine jad (fun hc=>?_) (fun hc=>?_)<;>first | contradiction | (exfalso;omega) | skip)|refine cm (hex) ?_|refine cm (hey) ?_|refine cp (hb) ?_|refine cm (hm) ?_|refine wkB ?_|exact True.intro|(clear hK K)));all_goals (try clear W)
  (refine jaN [.tmp 4] ?_;try simp only [go_sem])
 ·have hk':(nth c.tree.nodes a.toNat).kind=6:=k
  obtain ⟨x,hl,hxe⟩:=sh.one (by omega)
  have hl1:(c.node a).l.length=1:=by rw [hl];rfl
  have hl':(nth c.tree.nodes a.toNat).l.length=1:=hl1
  obtain ⟨g1,g2,g3⟩:=hmem 0 (by omega)
  have hkx:isR (c.node (c.kid a 0)).kind:=by
   have:c.kid a 0=x:=by unfold Ck.kid;rw [hl];rfl
   rw [this];exact .inl hxe
  have hex:=hx c (c.kid a 0) h g2 g3 g1 hkx
  have hm:=jcF (jae n c (c.kid a 0)).1 (decide ((jae n c (c.kid a 0)).2=3) || decide ((jae n c (c.kid a 0)).2=4)) a
  rw [show jap (jae n) c a=((jae n c (c.kid a 0)).1.must (decide ((jae n c (c.kid a 0)).2=3) || decide ((jae n c (c.kid a 0)).2=4)) a,1) from by unfold jap;rw [k];rfl]
  refine jaw Tryz.func272 Tryz.ntmps272 ?_
  (refine S ?_;try exact True.intro)
  (have W:=hk';repeat' (first|refine jaa fun K hK=>?_|refine wkA ?_|(refine hK _ _ ?_;clear hK K)|(refine jad (fun hc=>?_) (fun hc=>?_)<;>first | contradiction | (exfalso;omega) | skip)|refine cm (hex) ?_|refine cm (hm) ?_|refine wkB ?_|exact True.intro|(clear hK K)));all_goals (try clear W)
  (refine jaN [.tmp 4] ?_;try simp only [go_sem])
 ·have hk':(nth c.tree.nodes a.toNat).kind=7:=k
  obtain ⟨x,hl,hxe⟩:=sh.one (by omega)
  have hl1:(c.node a).l.length=1:=by rw [hl];rfl
  have hl':(nth c.tree.nodes a.toNat).l.length=1:=hl1
  obtain ⟨g1,g2,g3⟩:=hmem 0 (by omega)
  have hkx:isR (c.node (c.kid a 0)).kind:=by
   have:c.kid a 0=x:=by unfold Ck.kid;rw [hl];rfl
   rw [this];exact .inl hxe
  have hex:=hx c (c.kid a 0) h g2 g3 g1 hkx
  have hm:=jcF (jae n c (c.kid a 0)).1 (decide ((jae n c (c.kid a 0)).2=1)) a
  rw [show jap (jae n) c a=((jae n c (c.kid a 0)).1.must (decide ((jae n c (c.kid a 0)).2=1)) a,1) from by unfold jap;rw [k];rfl]
  refine jaw Tryz.func272 Tryz.ntmps272 ?_
  (refine S ?_;try exact True.intro)
  (have W:=hk';repeat' (first|refine jaa fun K hK=>?_|refine wkA ?_|(refine hK _ _ ?_;clear hK K)|(refine jad (fun hc=>?_) (fun hc=>?_)<;>first | contradiction | (exfalso;omega) | skip)|refine cm (hex) ?_|refine cm (hm) ?_|refine wkB ?_|exact True.intro|(clear hK K)));all_goals (try clear W)
  (refine jaN [.tmp 4] ?_;try simp only [go_sem])
 ·have hk':(nth c.tree.nodes a.toNat).kind=8:=k
  obtain ⟨x,hl,hxe⟩:=sh.one (by omega)
  have hl1:(c.node a).l.length=1:=by rw [hl];rfl
  have hl':(nth c.tree.nodes a.toNat).l.length=1:=hl1
  obtain ⟨g1,g2,g3⟩:=hmem 0 (by omega)
  have hkx:isR (c.node (c.kid a 0)).kind:=by
   have:c.kid a 0=x:=by unfold Ck.kid;rw [hl];rfl
   rw [this];exact .inl hxe
  have hex:=hx c (c.kid a 0) h g2 g3 g1 hkx
  have hm:=jcF (jae n c (c.kid a 0)).1 (decide ((jae n c (c.kid a 0)).2=2)) a
  rw [show jap (jae n) c a=((jae n c (c.kid a 0)).1.must (decide ((jae n c (c.kid a 0)).2=2)) a,2) from by unfold jap;rw [k];rfl]
  refine jaw Tryz.func272 Tryz.ntmps272 ?_
  (refine S ?_;try exact True.intro)
  (have W:=hk';repeat' (first|refine jaa fun K hK=>?_|refine wkA ?_|(refine hK _ _ ?_;clear hK K)|(refine jad (fun hc=>?_) (fun hc=>?_)<;>first | contradiction | (exfalso;omega) | skip)|refine cm (hex) ?_|refine cm (hm) ?_|refine wkB ?_|exact True.intro|(clear hK K)));all_goals (try clear W)
  (refine jaN [.tmp 4] ?_;try simp only [go_sem])
 ·have hk':(nth c.tree.nodes a.toNat).kind=20:=k
  obtain ⟨x,hl,hxe⟩:=sh.one (by omega)
  have hl1:(c.node a).l.length=1:=by rw [hl];rfl
  have hl':(nth c.tree.nodes a.toNat).l.length=1:=hl1
  obtain ⟨g1,g2,g3⟩:=hmem 0 (by omega)
  have hkx:isR (c.node (c.kid a 0)).kind:=by
   have:c.kid a 0=x:=by unfold Ck.kid;rw [hl];rfl
   rw [this];exact .inl hxe
  have hex:=hx c (c.kid a 0) h g2 g3 g1 hkx
  have hm:=jcF (jae n c (c.kid a 0)).1 (decide ((jae n c (c.kid a 0)).2=1)) a
  rw [show jap (jae n) c a=((jae n c (c.kid a 0)).1.must (decide ((jae n c (c.kid a 0)).2=1)) a,4) from by unfold jap;rw [k];rfl]
  refine jaw Tryz.func272 Tryz.ntmps272 ?_
  (refine S ?_;try exact True.intro)
  (have W:=hk';repeat' (first|refine jaa fun K hK=>?_|refine wkA ?_|(refine hK _ _ ?_;clear hK K)|(refine jad (fun hc=>?_) (fun hc=>?_)<;>first | contradiction | (exfalso;omega) | skip)|refine cm (hex) ?_|refine cm (hm) ?_|refine wkB ?_|exact True.intro|(clear hK K)));all_goals (try clear W)
  (refine jaN [.tmp 4] ?_;try simp only [go_sem])
theorem jd2 (a:Int) (c:Ck) (ps:List GParam):jbV a c [] ps=c:=by cases ps<;>rfl
theorem jd3 (a:Int) (c:Ck) (ts:List Int):jbV a c ts []=c:=by cases ts<;>rfl
theorem jnD {α:Type} (f:α→ByteArray) (nm:ByteArray):∀ (l:List α) (i k:Int),0≤i→(jdh f nm l i k=k∨i≤jdh f nm l i k)∧(jdh f nm l i k=k∨jdh f nm l i k < i+l.length)
 | [],i,k,_=>by unfold jdh;exact ⟨.inl rfl,.inl rfl⟩
 | v::l,i,k,hi=>by
  unfold jdh
  obtain ⟨h1,h2⟩:=jnD f nm l (i+1) (if f v=nm then i else k) (by omega)
  simp only [List.length_cons]
  split at h1<;>rename_i hv
  ·rw [if_pos hv] at h2 ⊢
   omega
  ·rw [if_neg hv] at h2 ⊢
   omega
set_option maxHeartbeats 4000000 in
set_option maxRecDepth 10000 in
theorem juW (n:Nat) (hx:jhM n):jtg n:=by
 intro c a h h0 h1 hn hk
 have hz:=h.size
 have hv:=h.vars
 have htf:=h.tree.fns
 have htm:=h.tree.many
 obtain ⟨sh,hkid⟩:=jgm h h0 h1
 have hck:=h.tree.chain
 have hlen:(nth c.tree.nodes a.toNat).l.length≤300:=jng h h0 h1
 have hkk:∀ i,i < (c.node a).l.length→isR (c.node (nth (c.node a).l i)).kind∧(nth (c.node a).l i).toNat < n∧0≤nth (c.node a).l i∧nth (c.node a).l i < c.tree.nodes.length:=fun i hi=>by
  have hm:nth (c.node a).l i∈(c.node a).l:=jaP hi
  have:=hkid _ hm
  exact ⟨.inl (sh.call hk _ hm),by omega,this.1,by omega⟩
 obtain ⟨lg1,lg2⟩:=jnD GFunc.name (c.node a).name c.tree.fns 0 (-1) (by omega)
 have lg1:jaG c a=-1∨0≤jaG c a:=lg1
 have lg2:jaG c a=-1∨jaG c a < 0+c.tree.fns.length:=lg2
 refine jaw Tryz.func284 Tryz.ntmps284 ?_
 (refine S ?_;try exact True.intro)
 (repeat' (first|refine jaa fun K hK=>?_|refine wkA ?_|(refine hK _ _ ?_;clear hK K)|(refine jad (fun hc=>?_) (fun hc=>?_)<;>first | contradiction | (exfalso;omega) | skip)|refine wkB ?_|exact True.intro|(clear hK K)))
 have hKo:=hK;clear hK
 refine jah (S:=Nat×Int) [(6,2),(22,25)] (fun s=>s.1≤c.tree.fns.length∧jdh GFunc.name (c.node a).name (c.tree.fns.drop s.1) s.1 s.2=jaG c a) (fun s=>[(7,rI s.1),(6,rI s.2)]) (fun _=>⟨[0,1,2,3,4,5],jdE c++[(6,.var 53 (jao (c.node a)))]⟩) (fun s=>c.tree.fns.length - s.1) (0,-1) ⟨by (try simp only);omega,rfl⟩ (jaE jgX lle) ?_
 rintro ⟨k,j⟩ ⟨hk1,hk2⟩ Kr hKr
 simp only at hk1 hk2
 (refine S ?_;try exact True.intro)
 by_cases hlt:k < c.tree.fns.length
 ·rw [jbz hlt] at hk2
  unfold jdh at hk2
  (repeat' (first|refine jaa fun K hK=>?_|refine wkA ?_|(with_reducible refine gR 6 ?_);refine dE 6 [0,1,2,3,4,5,6,7,8,9,10,11,12] mixed ?_|(refine hK _ _ ?_;clear hK K)|(refine jad (fun hc=>?_) (fun hc=>?_)<;>first | contradiction | (exfalso;omega) | skip)|refine wkB ?_|exact True.intro|(clear hK K)))
  ·rw [if_pos hc] at hk2
   refine hKr _ _ (jau (k+1,(k:Int)) ⟨by (try simp only);omega,by rw [← hk2];rfl⟩ (by (try simp only);omega) jgX lle)
  ·rw [if_neg hc] at hk2
   refine hKr _ _ (jau (k+1,j) ⟨by (try simp only);omega,by rw [← hk2];rfl⟩ (by (try simp only);omega) jgX lle)
 ·rw [List.drop_eq_nil_of_le (by omega)] at hk2
  have hk2:j=jaG c a:=hk2
  subst hk2
  by_cases hneg:jaG c a < 0
  ·rw [jdo,if_pos hneg] at *
   (repeat' (first|refine jaa fun K hK=>?_|refine wkA ?_|(refine hK _ _ ?_;clear hK K)|(refine jad (fun hc=>?_) (fun hc=>?_)<;>first | contradiction | (exfalso;omega) | skip)|(refine hKo _ _ ?_)|refine cm (jdv c 40 a) ?_|refine wkB ?_|exact True.intro|(clear hK K)))
   (refine jaN [.tmp 4] ?_;try simp only [go_sem])
  ·have hnn:0≤jaG c a:=by omega
   have hcn:(jaG c a).toNat < c.tree.fns.length:=by omega
   have hfp:=(h.tree.fn _ (jaP hcn)).2
   have e0:jdo (jae n) c a=(jbV a (if (c.node a).l.length≠(nth c.tree.fns (jaG c a).toNat).params.length then (jcu (jae n) c (c.node a).l []).1.fails 43 a else (jcu (jae n) c (c.node a).l []).1) (jcu (jae n) c (c.node a).l []).2 (nth c.tree.fns (jaG c a).toNat).params,(nth c.tree.fns (jaG c a).toNat).ret):=by
    rw [jdo,if_neg hneg]
   (repeat' (first|refine jaa fun K hK=>?_|refine wkA ?_|(refine hK _ _ ?_;clear hK K)|(refine jad (fun hc=>?_) (fun hc=>?_)<;>first | contradiction | (exfalso;omega) | skip)|(refine hKo _ _ ?_)|refine wkB ?_|exact True.intro|(clear hK K)))
   have hKo2:=hK;clear hK
   refine jaU (FLe.nil 8 9 3 (sz:=1) rfl (by decide) (Or.inr ⟨_,_,_,rfl,rfl⟩)) ?_
   (refine S ?_;try exact True.intro)
   refine jah (S:=Nat×Ck×List Int) [(9,3),(62,25)] (fun s=>s.1≤(c.node a).l.length∧Ev c s.2.1∧s.2.2.length=s.1∧jcu (jae n) s.2.1 ((c.node a).l.drop s.1) s.2.2=jcu (jae n) c (c.node a).l []) (fun s=>[(10,rI s.1),(9,.rs 8 s.2.2.length 1 s.2.2.length)]) (fun s=>⟨[0,1,2,3,4,5],jdE s.2.1++[(6,.var 53 (jao (c.node a))),(7,.var 100 (jbe (nth c.tree.fns (jaG c a).toNat))),(8,.vec 3 1 (s.2.2.map eI))]⟩) (fun s=>(c.node a).l.length - s.1) (0,c,[]) ⟨by (try simp only);omega,.refl c,rfl,rfl⟩ (jaE jgX lle) ?_
   rintro ⟨i,q,ts⟩ ⟨hi1,ev,hts,hA⟩ Kr2 hKr2
   simp only at hi1 ev hts hA
   have hq:=h.ev ev
   have lt1:=hq.types
   have lt2:=hq.slots
   have lt3:=hq.fns
   have lt4:=hq.vars
   have lt5:=hq.size
   have hlq:(c.node a).l.length≤300:=hlen
   (refine S ?_;try exact True.intro)
   by_cases hgo:i < (c.node a).l.length∧q.e=0
   ·obtain ⟨hg1,hg2⟩:=hgo
    rw [jbz hg1,jcu,if_pos hg2] at hA
    obtain ⟨g1,g2,g3,g4⟩:=hkk i hg1
    have hxc:=hx q (nth (c.node a).l i) hq g3 (by rw [ev.tree];exact g4) g2 (by rw [ev.node];exact g1)
    (have W:=hg2;repeat' (first|refine jaa fun K hK=>?_|refine wkA ?_|(refine hK _ _ ?_;clear hK K)|(refine jad (fun hc=>?_) (fun hc=>?_)<;>first | contradiction | (exfalso;omega) | skip)|refine cm (hxc) ?_|refine wkB ?_|exact True.intro|(clear hK K)));all_goals (try clear W)
    refine hKr2 _ _ (jau (i+1,(jae n q (nth (c.node a).l i)).1,ts++[(jae n q (nth (c.node a).l i)).2]) ⟨by (try simp only);omega,ev.trans (jaA _ _ _),by simp [hts],hA⟩ (by (try simp only);omega) jgX lle)
   have hA2:jcu (jae n) c (c.node a).l []=(q,ts):=by
    rw [← hA]
    by_cases hg1:i < (c.node a).l.length
    ·rw [jbz hg1,jcu,if_neg fun e=>hgo ⟨hg1,e⟩]
    ·rw [List.drop_eq_nil_of_le (by omega),jcu]
   have hq1:q=(jcu (jae n) c (c.node a).l []).1:=by rw [hA2]
   have hq2:ts=(jcu (jae n) c (c.node a).l []).2:=by rw [hA2]
   by_cases hne:(c.node a).l.length≠(nth c.tree.fns (jaG c a).toNat).params.length
   ·have hne':(((c.node a).l.length:Int)=((nth c.tree.fns (jaG c a).toNat).params.length:Int))=False:=eq_false (by omega)
    have hcx:(q.fails 43 a).e≠0:=by unfold Ck.fails;split;(exact fun h=>by cases h);assumption
    have evx:Ev c (q.fails 43 a):=ev.trans (jbZ q (by decide) a)
    have hb:((q.fails 43 a)).e=0→ts.length≤(nth c.tree.fns (jaG c a).toNat).params.length:=fun h=>(hcx h).elim
    (have W:=hne';repeat' (first|refine jaa fun K hK=>?_|refine wkA ?_|(refine hK _ _ ?_;clear hK K)|(refine jad (fun hc=>?_) (fun hc=>?_)<;>first | contradiction | (exfalso;omega) | skip)|(refine hKo2 _ _ ?_)|refine cm (jdv q 43 a) ?_|refine wkB ?_|exact True.intro|(clear hK K)));all_goals (try clear W)
    have hKo3:=hK;clear hK
    refine jah (S:=Nat×Ck) [(12,1),(97,27)] (fun s=>s.1≤ts.length∧Ev (q.fails 43 a) s.2∧jbV a s.2 (ts.drop s.1) ((nth c.tree.fns (jaG c a).toNat).params.drop s.1)=jbV a (q.fails 43 a) ts (nth c.tree.fns (jaG c a).toNat).params) (fun s=>[(12,rI s.1)]) (fun s=>⟨[0,1,2,3,4,5],jdE s.2++[(6,.var 53 (jao (c.node a))),(7,.var 100 (jbe (nth c.tree.fns (jaG c a).toNat))),(8,.vec 3 1 (ts.map eI))]⟩) (fun s=>ts.length - s.1) (0,(q.fails 43 a)) ⟨by (try simp only);omega,.refl _,rfl⟩ (jaE jgX lle) ?_
    rintro ⟨m,z⟩ ⟨hm1,hm2,hm3⟩ Kr3 hKr3
    simp only at hm1 hm2 hm3
    (refine S ?_;try exact True.intro)
    by_cases hgo:m < ts.length∧z.e=0
    ·obtain ⟨hg1,hg2⟩:=hgo
     have he1:((q.fails 43 a)).e=0:=Classical.byContradiction fun h=>hm2.err h hg2
     exact (hcx he1).elim
    ·have hz:z=jbV a (q.fails 43 a) ts (nth c.tree.fns (jaG c a).toNat).params:=by
      by_cases hg1:m < ts.length
      ·have hg2:z.e≠0:=fun e=>hgo ⟨hg1,e⟩
       rw [jbz hg1] at hm3
       cases hp:(nth c.tree.fns (jaG c a).toNat).params.drop m with
       | nil=>rw [hp,jd3] at hm3;exact hm3
       | cons x y=>rw [hp,jbV,if_neg hg2] at hm3;exact hm3
      ·rw [List.drop_eq_nil_of_le (by omega),jd2] at hm3
       exact hm3
     (repeat' (first|refine jaa fun K hK=>?_|refine wkA ?_|(refine hK _ _ ?_;clear hK K)|(refine jad (fun hc=>?_) (fun hc=>?_)<;>first | contradiction | (exfalso;omega) | skip)|(refine hKo3 _ _ ?_)|refine wkB ?_|exact True.intro|(clear hK K)))
     all_goals first | (exact absurd ⟨by omega,by assumption⟩ hgo) | skip
     have e1:jdo (jae n) c a=(z,(nth c.tree.fns (jaG c a).toNat).ret):=by rw [e0,if_pos hne,← hq1,← hq2,hz]
     all_goals (
      rw [e1]
      (refine jaN [.tmp 4] ?_;try simp only [go_sem]))
   ·have hne':((c.node a).l.length:Int)=((nth c.tree.fns (jaG c a).toNat).params.length:Int):=by omega
    have hcx:True:=trivial
    have evx:Ev c q:=ev
    have hb:(q).e=0→ts.length≤(nth c.tree.fns (jaG c a).toNat).params.length:=fun _=>by omega
    (have W:=hne';repeat' (first|refine jaa fun K hK=>?_|refine wkA ?_|(refine hK _ _ ?_;clear hK K)|(refine jad (fun hc=>?_) (fun hc=>?_)<;>first | contradiction | (exfalso;omega) | skip)|(refine hKo2 _ _ ?_)|refine wkB ?_|exact True.intro|(clear hK K)));all_goals (try clear W)
    have hKo3:=hK;clear hK
    refine jah (S:=Nat×Ck) [(12,1),(97,27)] (fun s=>s.1≤ts.length∧Ev q s.2∧jbV a s.2 (ts.drop s.1) ((nth c.tree.fns (jaG c a).toNat).params.drop s.1)=jbV a q ts (nth c.tree.fns (jaG c a).toNat).params) (fun s=>[(12,rI s.1)]) (fun s=>⟨[0,1,2,3,4,5],jdE s.2++[(6,.var 53 (jao (c.node a))),(7,.var 100 (jbe (nth c.tree.fns (jaG c a).toNat))),(8,.vec 3 1 (ts.map eI))]⟩) (fun s=>ts.length - s.1) (0,q) ⟨by (try simp only);omega,.refl _,rfl⟩ (jaE jgX lle) ?_
    rintro ⟨m,z⟩ ⟨hm1,hm2,hm3⟩ Kr3 hKr3
    simp only at hm1 hm2 hm3
    (refine S ?_;try exact True.intro)
    by_cases hgo:m < ts.length∧z.e=0
    ·obtain ⟨hg1,hg2⟩:=hgo
     have he1:(q).e=0:=Classical.byContradiction fun h=>hm2.err h hg2
     have hmp:m < (nth c.tree.fns (jaG c a).toNat).params.length:=by have:=hb he1;omega
     rw [jbz hg1,jbz hmp,jbV,if_pos hg2] at hm3
     (have W:=hg2;repeat' (first|refine jaa fun K hK=>?_|refine wkA ?_|(with_reducible refine gR 23 ?_);refine dE 23 [0,1,2,3,4,5,6,7,8,9,10,11,12,13] mixed ?_|(refine hK _ _ ?_;clear hK K)|(refine jad (fun hc=>?_) (fun hc=>?_)<;>first | contradiction | (exfalso;omega) | skip)|refine cm (jcF z (decide (nth ts m=(nth (nth c.tree.fns (jaG c a).toNat).params m).ty)) a) ?_|refine wkB ?_|exact True.intro|(clear hK K)));all_goals (try clear W)
     refine hKr3 _ _ (jau (m+1,z.must (decide (nth ts m=(nth (nth c.tree.fns (jaG c a).toNat).params m).ty)) a) ⟨by (try simp only);omega,hm2.trans (jbF _ _ _),hm3⟩ (by (try simp only);omega) jgX lle)
    ·have hz:z=jbV a q ts (nth c.tree.fns (jaG c a).toNat).params:=by
      by_cases hg1:m < ts.length
      ·have hg2:z.e≠0:=fun e=>hgo ⟨hg1,e⟩
       rw [jbz hg1] at hm3
       cases hp:(nth c.tree.fns (jaG c a).toNat).params.drop m with
       | nil=>rw [hp,jd3] at hm3;exact hm3
       | cons x y=>rw [hp,jbV,if_neg hg2] at hm3;exact hm3
      ·rw [List.drop_eq_nil_of_le (by omega),jd2] at hm3
       exact hm3
     (repeat' (first|refine jaa fun K hK=>?_|refine wkA ?_|(refine hK _ _ ?_;clear hK K)|(refine jad (fun hc=>?_) (fun hc=>?_)<;>first | contradiction | (exfalso;omega) | skip)|(refine hKo3 _ _ ?_)|refine wkB ?_|exact True.intro|(clear hK K)))
     all_goals first | (exact absurd ⟨by omega,by assumption⟩ hgo) | skip
     have e1:jdo (jae n) c a=(z,(nth c.tree.fns (jaG c a).toNat).ret):=by rw [e0,if_neg hne,← hq1,← hq2,hz]
     all_goals (
      rw [e1]
      (refine jaN [.tmp 4] ?_;try simp only [go_sem]))
structure Sv (c c':Ck):Prop where
 tree:c'.tree=c.tree
 fn:c'.fn=c.fn
 size_:c'.size_=c.size_
 err:c.e≠0→c'.e≠0
 inv:CkIn c'
 pre:∃ u,c'.vars=c.vars++u
theorem Sv.refl {c:Ck} (h:CkIn c):Sv c c:=⟨rfl,rfl,rfl,id,h,[],by simp⟩
theorem Sv.of_ev {c c':Ck} (h:CkIn c) (s:Ev c c'):Sv c c':=⟨s.tree,s.fn,s.size_,s.err,h.ev s,[],by rw [s.vars];simp⟩
theorem Sv.trans {a b c:Ck} (h:Sv a b) (k:Sv b c):Sv a c:=⟨k.tree.trans h.tree,k.fn.trans h.fn,k.size_.trans h.size_,fun e=>k.err (h.err e),k.inv,by
 obtain ⟨u,hu⟩:=h.pre
 obtain ⟨v,hv⟩:=k.pre
 exact ⟨u++v,by rw [hv,hu,List.append_assoc]⟩⟩
def jhA (ex:Ck→Int→Ck×Int) (c:Ck) (a:Int):Ck:=(ex c (c.kid a 0)).1.must (!decide ((ex c (c.kid a 0)).2=0)) a
def jjp (ex:Ck→Int→Ck×Int) (c:Ck) (a:Int):Ck:=if 0≤(jhA ex c a).find (c.node a).name then (jhA ex c a).fails 41 a else jhA ex c a
def jc6 (ex:Ck→Int→Ck×Int) (c:Ck) (a:Int):Ck:=if 24≤(jjp ex c a).size then (jjp ex c a).fails 4 a else jjp ex c a
def j0r (c:Ck) (a:Int) (v:GVar):Ck:={ (c.slot a c.size) with vars:=c.vars++[v],more:=c.more.drop 1,size:=c.size+1 }
theorem jlf (ex:Ck→Int→Ck×Int) (c:Ck) (a:Int):jrB ex c a=j0r (jc6 ex c a) a ⟨(c.node a).name,(ex c (c.kid a 0)).2,(jc6 ex c a).size⟩:=rfl
theorem jmo {ex:Ck→Int→Ck×Int} (hex:∀ c a,Ev c (ex c a).1) (c:Ck) (a:Int):Ev c (jhA ex c a):=(hex c _).trans (jbF _ _ _)
theorem jmp {ex:Ck→Int→Ck×Int} (hex:∀ c a,Ev c (ex c a).1) (c:Ck) (a:Int):Ev c (jjp ex c a):=by
 unfold jjp
 split
 ·exact (jmo hex c a).trans (jbZ _ (by decide) a)
 ·exact jmo hex c a
theorem jjY {ex:Ck→Int→Ck×Int} (hex:∀ c a,Ev c (ex c a).1) (c:Ck) (a:Int):Ev c (jc6 ex c a):=by
 unfold jc6
 split
 ·exact (jmp hex c a).trans (jbZ _ (by decide) a)
 ·exact jmp hex c a
theorem jqb {ex:Ck→Int→Ck×Int} {c:Ck} {a:Int} (h:(jc6 ex c a).e=0):(jc6 ex c a).size < 24:=by
 unfold jc6 at h ⊢
 split
 ·rename_i hs
  rw [if_pos hs] at h
  exfalso
  unfold Ck.fails at h
  split at h
  ·cases h
  ·contradiction
 ·omega
theorem jvG {c:Ck} (h:CkIn c) (a:Int) (v:GVar) (h24:c.size≤24) (hr:c.e=0→c.size < 24):Sv c (j0r c a v):=by
 refine ⟨rfl,rfl,rfl,id,⟨h.tree,h.types,by show (c.slots.set _ _).length=_;rw [List.length_set];exact h.slots,h.fns,h.size_,h.flo,h.fhi,?_,by show c.size+1≤25;omega,fun e=>by show c.size+1≤24;have:=hr e;omega⟩,[v],rfl⟩
 show ((c.vars++[v]).length:Int)≤c.size+1
 have:=h.vars
 simp
 omega
theorem jyE {ex:Ck→Int→Ck×Int} (hex:∀ c a,Ev c (ex c a).1) {c:Ck} (h:CkIn c) (he:c.e=0) (a:Int):Sv c (jrB ex c a):=by
 rw [jlf]
 have s:=jjY hex c a
 refine (Sv.of_ev h s).trans (jvG (h.ev s) a _ ?_ jqb)
 rw [s.size]
 exact h.room he
theorem jpc {ex:Ck→Int→Ck×Int} (hex:∀ c a,Ev c (ex c a).1) {c:Ck} (h:CkIn c) (a:Int):Sv c (jbD ex c a):=by
 refine Sv.of_ev h ?_
 unfold jbD
 simp only
 split
 ·exact jbZ c (by decide) a
 split
 ·exact (hex c _).trans (jbF _ _ _)
 ·exact .refl c
theorem jc8 {st:Ck→Int→Ck} (hst:∀ c a,CkIn c→c.e=0→Sv c (st c a)):∀ (l:List Int) (c:Ck),CkIn c→Sv c (jaI st c l)
 | [],c,h=>by unfold jaI;exact .refl h
 | a::l,c,h=>by
  unfold jaI
  split
  ·rename_i he
   have s:=hst c a h he
   exact s.trans (jc8 hst l _ s.inv)
  ·exact .refl h
theorem jcN {st:Ck→Int→Ck} (hst:∀ c a,CkIn c→c.e=0→Sv c (st c a)) {c:Ck} (h:CkIn c) (a:Int):Sv c (ja0 st c a)∧(ja0 st c a).vars=c.vars:=by
 have s:=(Sv.of_ev h (jc2 c a)).trans (jc8 hst (c.node a).l _ (h.ev (jc2 c a)))
 obtain ⟨u,hu⟩:=s.pre
 have hv:(jaI st (c.noteF a) (c.node a).l).vars.take (min c.vars.length (jaI st (c.noteF a) (c.node a).l).vars.length)=c.vars:=by
  rw [hu,Nat.min_eq_left (by simp),List.take_left']
  rfl
 have hi:=s.inv
 refine ⟨⟨s.tree,s.fn,s.size_,s.err,⟨hi.tree,hi.types,hi.slots,hi.fns,hi.size_,hi.flo,hi.fhi,?_,hi.size,hi.room⟩,[],by rw [List.append_nil];exact hv⟩,hv⟩
 have:=hi.vars
 show (((jaI st (c.noteF a) (c.node a).l).vars.take _).length:Int)≤_
 rw [List.length_take]
 show _≤(jaI st (c.noteF a) (c.node a).l).size
 omega
theorem ja3:∀ (n:Nat) (c:Ck) (a:Int),CkIn c→c.e=0→Sv c (jaf n c a)
 | 0,c,a,h,he=>by unfold jaf;exact .refl h
 | n+1,c,a,h,he=>by
  have e0:=jc2 c a
  have h0:=h.ev e0
  have s0:=Sv.of_ev h e0
  have hx:=jaA n
  unfold jaf
  simp only
  repeat' split
  ·exact s0.trans (jyE hx h0 he a)
  ·exact s0.trans (Sv.of_ev h0 (((jb0 _ a).trans (hx _ _)).trans (jbF _ _ _)))
  ·exact s0.trans (Sv.of_ev h0 ((((jb0 _ a).trans (hx _ _)).trans (hx _ _)).trans (jbF _ _ _)))
  ·exact s0.trans (Sv.of_ev h0 (hx _ _))
  ·exact s0.trans (Sv.of_ev h0 ((hx _ _).trans (jbF _ _ _)))
  ·exact s0.trans (jpc hx h0 a)
  ·have s1:=s0.trans (Sv.of_ev h0 ((hx (c.noteF a) ((c.noteF a).kid a 0)).trans (jbF _ (decide ((jae n (c.noteF a) ((c.noteF a).kid a 0)).2=2)) a)))
   exact s1.trans (jc8 (fun q b hq _=>(jcN (ja3 n) hq b).1) _ _ s1.inv)
def jpr (n:Nat):Prop:=∀ (c:Ck) (a:Int),CkIn c→c.e=0→0≤a→a < c.tree.nodes.length→a.toNat < n→isS (c.node a).kind→ACalls Tryz.prog 216 [pR,rI a] (jdE c) (fun v l=>v=.tup []∧l=jdE (jaf n c a))
def jpq (n:Nat):Prop:=∀ (c:Ck) (a:Int),CkIn c→0≤a→a < c.tree.nodes.length→a.toNat≤n→(c.node a).kind=18→ACalls Tryz.prog 152 [pR,rI a] (jdE c) (fun v l=>v=.tup []∧l=jdE (ja0 (jaf n) c a))
end Go.Proofs.YtfkgcobaheegbaaGreatDoor

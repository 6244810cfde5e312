/- The document's checker: its small methods. The plain law of the document's checker: what looking at expressions leaves as it was. The document's checker: expressions. The document's checker: calls. The plain law of the document's checker: what looking at statements leaves as it was. No conditions. -/
import Derived.Test.YtfkgcobaheegbaaGreatDoorP8
import Derived.Test.YtfkgcobaheegbaaGreatDoorEvS
set_option linter.all false
namespace Go.Proofs.YtfkgcobaheegbaaGreatDoor
open Go Go.Gd
def jgG (c:Ck):List AV:=[jal jaq 5 c.tree.nodes,jal ja8 5 c.tree.fns,.rs 1 c.types.length 1 c.types.length,.rs 2 c.slots.length 1 c.slots.length,.rs 3 c.fns.length 1 c.fns.length,.rs 4 c.size_.length 1 c.size_.length,rI c.fn,.rs 5 (c.vars.length+c.more.length) 3 c.vars.length,rI c.size,rI c.e,rI c.at_]
def jdJ (c:Ck):List (Nat×Row):=[(0,.var 172 (jgG c)),(1,.vec 3 1 (c.types.map eI)),(2,.vec 3 1 (c.slots.map eI)),(3,.vec 3 1 (c.fns.map eI)),(4,.vec 3 1 (c.size_.map eI)),(5,.vec 63 3 ((c.vars++c.more).map jdT))]
attribute [go_sem] jdJ jgG Ck.slot Ck.note Ck.noteF
structure CkIn (c:Ck):Prop where
 tree:TreeOk c.tree
 types:c.types.length=c.tree.nodes.length
 slots:c.slots.length=c.tree.nodes.length
 fns:c.fns.length=c.tree.nodes.length
 size_:c.size_.length≤6
 flo:0≤c.fn
 fhi:c.fn < c.tree.fns.length
 vars:(c.vars.length:Int)≤c.size
 size:c.size≤25
 room:c.e=0→c.size≤24
theorem jiH {α:Type} (f:α→ByteArray) (nm:ByteArray):∀ (l:List α) (i:Int),0≤i→(jb4 f nm l i=-1∧∀ v∈l,f v≠nm)∨(i≤jb4 f nm l i∧jb4 f nm l i < i+l.length)
 | [],i,_=>.inl ⟨rfl,fun v hv=>by simp at hv⟩
 | v::l,i,hi=>by
  unfold jb4
  by_cases h:f v=nm
  ·rw [if_pos h];exact .inr (by simp;omega)
  ·rw [if_neg h]
   rcases jiH f nm l (i+1) (by omega) with ⟨h1,h2⟩ | h1
   ·exact .inl ⟨h1,fun u hu=>by
     rcases List.mem_cons.1 hu with rfl | hu
     ·exact h
     ·exact h2 u hu⟩
   ·exact .inr (by simp;omega)
theorem jbj {α:Type} [Inhabited α] {l:List α} {i:Nat} (h:i < l.length):l.drop i=nth l i::l.drop (i+1):=by
 rw [ja3 h];exact List.drop_eq_getElem_cons h
set_option maxHeartbeats 1000000 in
set_option maxRecDepth 10000 in
theorem jdy (c:Ck) (e a:Int):ACalls Tryz.prog 150 [pR,rI e,rI a] (jdJ c) (fun v l=>v=.tup []∧l=jdJ (c.fails e a)):=by
 refine jaK Tryz.func150 Tryz.ntmps150 ?_
 (refine S ?_;try exact True.intro)
 (repeat' (first|refine jaa fun K hK=>?_|refine wkA ?_|(refine hK _ _ ?_;clear hK K)|(refine jae (fun hc=>?_) (fun hc=>?_)<;>first | contradiction | (exfalso;omega) | skip)|refine wkB ?_|exact True.intro|(clear hK K)))
 ·(refine jbS [] ?_ ?_<;>(try simp only [go_sem]))
  simp only [Ck.fails,if_pos hc,jdJ,jgG]
 ·(refine jbS [] ?_ ?_<;>(try simp only [go_sem]))
  simp only [Ck.fails,if_neg hc,jdJ,jgG]
set_option maxHeartbeats 1000000 in
set_option maxRecDepth 10000 in
theorem jng (c:Ck) (nm:ByteArray) (h:CkIn c):ACalls Tryz.prog 151 [pR,rS nm] (jdJ c) (fun v l=>v=rI (c.find nm)∧l=jdJ c):=by
 have h1:=h.vars
 have h2:=h.size
 refine jaK Tryz.func151 Tryz.ntmps151 ?_
 (refine S ?_;try exact True.intro)
 (repeat' (first|refine jaa fun K hK=>?_|refine wkA ?_|(refine hK _ _ ?_;clear hK K)|(refine jae (fun hc=>?_) (fun hc=>?_)<;>first | contradiction | (exfalso;omega) | skip)|refine wkB ?_|exact True.intro|(clear hK K)))
 have hKo:=hK;clear hK
 refine jah (S:=Nat) [(4,22)] (fun k=>k≤c.vars.length∧jb4 GVar.name nm (c.vars.drop k) k=c.find nm) (fun k=>[(5,rI k)]) (fun _=>⟨[0,1,2,3,4,5],jdJ c⟩) (fun k=>c.vars.length - k) 0 ⟨by omega,rfl⟩ (jaH (by simp only [go_sem]) lle) ?_
 rintro k ⟨hk1,hk2⟩ Kr hKr
 (refine S ?_;try exact True.intro)
 by_cases hk:k < c.vars.length
 ·rw [jbj hk] at hk2
  unfold jb4 at hk2
  have hap:nth (c.vars++c.more) k=nth c.vars k:=jbe hk
  (have W:=hap;repeat' (first|refine jaa fun K hK=>?_|refine wkA ?_|(refine hK _ _ ?_;clear hK K)|(refine jae (fun hc=>?_) (fun hc=>?_)<;>first | contradiction | (exfalso;omega) | skip)|refine wkB ?_|exact True.intro|(clear hK K)));all_goals (try clear W)
  ·(refine jbS [.tmp 4] ?_ ?_<;>(try simp only [go_sem]))
   rw [if_pos hc] at hk2
   rw [← hk2]
  ·rw [if_neg hc] at hk2
   refine hKr _ _ (jaD (k+1) ⟨by omega,by rw [← hk2];rfl⟩ (by (try simp only);omega) (by simp only [go_sem]) lle)
 ·rw [List.drop_eq_nil_of_le (by omega)] at hk2
  (repeat' (first|refine jaa fun K hK=>?_|refine wkA ?_|(refine hK _ _ ?_;clear hK K)|(refine jae (fun hc=>?_) (fun hc=>?_)<;>first | contradiction | (exfalso;omega) | skip)|(refine hKo _ _ ?_)|refine wkB ?_|exact True.intro|(clear hK K)))
  (refine jbS [.tmp 4] ?_ ?_<;>(try simp only [go_sem]))
  rw [← hk2];rfl
set_option maxHeartbeats 1000000 in
set_option maxRecDepth 10000 in
theorem jcO (c:Ck) (b:Bool) (a:Int):ACalls Tryz.prog 253 [pR,rB b,rI a] (jdJ c) (fun v l=>v=.tup []∧l=jdJ (c.must b a)):=by
 refine jaK Tryz.func253 Tryz.ntmps253 ?_
 (refine S ?_;try exact True.intro)
 (repeat' (first|refine jaa fun K hK=>?_|refine wkA ?_|(refine hK _ _ ?_;clear hK K)|(refine jae (fun hc=>?_) (fun hc=>?_)<;>first | contradiction | (exfalso;omega) | skip)|refine cm (jdy c 42 a) ?_|refine wkB ?_|exact True.intro|(clear hK K)))
 ·(refine jbS [] ?_ ?_<;>(try simp only [go_sem]))
  simp only [Ck.must,hc,Bool.false_eq_true,if_false,jdJ,jgG]
 ·(refine jbS [] ?_ ?_<;>(try simp only [go_sem]))
  simp only [Ck.must,hc,if_true,jdJ,jgG]
theorem jgH {c:Ck} (h:CkIn c) {a:Int} (h0:0≤a) (h1:a < c.tree.nodes.length):Shape c.tree.nodes (c.node a)∧∀ x∈(c.node a).l,0≤x∧x.toNat < a.toNat:=by
 have:=h.tree.shape a.toNat (by omega)
 exact ⟨this.1,this.2.1⟩
theorem jn0 {c:Ck} (h:CkIn c) {a:Int} (h0:0≤a) (h1:a < c.tree.nodes.length):(c.node a).l.length≤300:=by
 obtain ⟨_,_,lo,hc⟩:=h.tree.shape a.toNat (by omega)
 have:=hc.len
 have:=h.tree.many
 show (nth c.tree.nodes a.toNat).l.length≤300
 omega
set_option maxHeartbeats 1000000 in
set_option maxRecDepth 10000 in
theorem joo (c:Ck) (a:Int) (h:CkIn c) (h0:0≤a) (h1:a < c.tree.nodes.length):ACalls Tryz.prog 251 [pR,rI a] (jdJ c) (fun v l=>v=rI (c.named a).2∧l=jdJ (c.named a).1):=by
 have hv:=h.vars
 have hz:=h.size
 have hsl:=h.slots
 have hfd:=jiH GVar.name (c.node a).name c.vars 0 (by omega)
 have hfc:=jng c (c.node a).name h
 have hfa:=jdy c 40 a
 have hap:0≤c.find (c.node a).name→nth (c.vars++c.more) (c.find (c.node a).name).toNat=nth c.vars (c.find (c.node a).name).toNat:=fun h=>jbe (by
  have hfd:(c.find (c.node a).name=-1∧_)∨(0≤c.find (c.node a).name∧c.find (c.node a).name < 0+c.vars.length):=hfd
  omega)
 have hfd:(c.find (c.node a).name=-1∧_)∨(0≤c.find (c.node a).name∧c.find (c.node a).name < 0+c.vars.length):=hfd
 unfold Ck.named
 by_cases hf:c.find (c.node a).name < 0
 ·rw [if_pos hf]
  refine jaK Tryz.func251 Tryz.ntmps251 ?_
  (refine S ?_;try exact True.intro)
  (repeat' (first|refine jaa fun K hK=>?_|refine wkA ?_|(refine hK _ _ ?_;clear hK K)|(refine jae (fun hc=>?_) (fun hc=>?_)<;>first | contradiction | (exfalso;omega) | skip)|refine cm (hfc) ?_|refine cm (hfa) ?_|refine wkB ?_|exact True.intro|(clear hK K)))
  (refine jbS [.tmp 4] ?_ ?_<;>(try simp only [go_sem]))
 ·rw [if_neg hf]
  have hap:=hap (by omega)
  refine jaK Tryz.func251 Tryz.ntmps251 ?_
  (refine S ?_;try exact True.intro)
  (have W:=hap;repeat' (first|refine jaa fun K hK=>?_|refine wkA ?_|(with_reducible refine gR 5 ?_);refine dE 5 [0,1,2,3,4,5,6,7,8,9,10,11,12,13,14,15] mixed ?_|(refine hK _ _ ?_;clear hK K)|(refine jae (fun hc=>?_) (fun hc=>?_)<;>first | contradiction | (exfalso;omega) | skip)|refine cm (hfc) ?_|refine wkB ?_|exact True.intro|(clear hK K)));all_goals (try clear W)
  (refine jbS [.tmp 4] ?_ ?_<;>(try simp only [go_sem]))
structure Ev (c c':Ck):Prop where
 tree:c'.tree=c.tree
 fn:c'.fn=c.fn
 vars:c'.vars=c.vars
 more:c'.more=c.more
 size:c'.size=c.size
 size_:c'.size_=c.size_
 types:c'.types.length=c.types.length
 slots:c'.slots.length=c.slots.length
 fns:c'.fns.length=c.fns.length
 err:c.e≠0→c'.e≠0
theorem Ev.refl (c:Ck):Ev c c:=⟨rfl,rfl,rfl,rfl,rfl,rfl,rfl,rfl,rfl,id⟩
theorem Ev.trans {a b c:Ck} (h:Ev a b) (k:Ev b c):Ev a c:=⟨k.tree.trans h.tree,k.fn.trans h.fn,k.vars.trans h.vars,k.more.trans h.more,k.size.trans h.size,k.size_.trans h.size_,k.types.trans h.types,k.slots.trans h.slots,k.fns.trans h.fns,fun e=>k.err (h.err e)⟩
theorem CkIn.ev {c c':Ck} (h:CkIn c) (s:Ev c c'):CkIn c' where
 tree:=by rw [s.tree];exact h.tree
 types:=by rw [s.types,s.tree];exact h.types
 slots:=by rw [s.slots,s.tree];exact h.slots
 fns:=by rw [s.fns,s.tree];exact h.fns
 size_:=by rw [s.size_];exact h.size_
 flo:=by rw [s.fn];exact h.flo
 fhi:=by rw [s.fn,s.tree];exact h.fhi
 vars:=by rw [s.vars,s.size];exact h.vars
 size:=by rw [s.size];exact h.size
 room:=fun e=>by rw [s.size];exact h.room (Classical.byContradiction fun h=>s.err h e)
theorem Ev.node {c c':Ck} (s:Ev c c') (a:Int):c'.node a=c.node a:=by unfold Ck.node;rw [s.tree]
theorem Ev.kid {c c':Ck} (s:Ev c c') (a:Int) (i:Nat):c'.kid a i=c.kid a i:=by unfold Ck.kid;rw [s.node]
theorem jbP (c:Ck) {e:Int} (he:e≠0) (a:Int):Ev c (c.fails e a):=by
 unfold Ck.fails
 split
 ·exact ⟨rfl,rfl,rfl,rfl,rfl,rfl,rfl,rfl,rfl,fun _=>he⟩
 ·exact .refl c
theorem jbm (c:Ck) (b:Bool) (a:Int):Ev c (c.must b a):=by
 unfold Ck.must
 split
 ·exact .refl c
 ·exact jbP c (by decide) a
theorem jvq (c:Ck) (a s:Int):Ev c (c.slot a s):=⟨rfl,rfl,rfl,rfl,rfl,rfl,rfl,by simp [Ck.slot],rfl,id⟩
theorem jvp (c:Ck) (a t:Int):Ev c (c.note a t):=⟨rfl,rfl,rfl,rfl,rfl,rfl,by simp [Ck.note],rfl,by simp [Ck.note],id⟩
theorem jcB (c:Ck) (a:Int):Ev c (c.noteF a):=⟨rfl,rfl,rfl,rfl,rfl,rfl,rfl,rfl,by simp [Ck.noteF],id⟩
theorem jbQ (c:Ck) (a:Int):Ev c (c.named a).1:=by
 unfold Ck.named
 split
 ·exact jbP c (by decide) a
 ·exact jvq c a _
theorem jec {ex:Ck→Int→Ck×Int} (hex:∀ c a,Ev c (ex c a).1):∀ (l:List Int) (c:Ck) (ts:List Int),Ev c (jbV ex c l ts).1
 | [],c,ts=>by unfold jbV;exact .refl c
 | a::l,c,ts=>by
  unfold jbV
  split
  ·exact (hex c a).trans (jec hex l _ _)
  ·exact .refl c
theorem jh3 (a:Int):∀ (ts:List Int) (ps:List GParam) (c:Ck),Ev c (jbx a c ts ps)
 | [],_,c=>by unfold jbx;exact .refl c
 | _::_,[],c=>by unfold jbx;exact .refl c
 | t::ts,p::ps,c=>by
  unfold jbx
  split
  ·exact (jbm c _ a).trans (jh3 a ts ps _)
  ·exact .refl c
theorem jvo {ex:Ck→Int→Ck×Int} (hex:∀ c a,Ev c (ex c a).1) (c:Ck) (a:Int):Ev c (jb3 ex c a).1:=by
 unfold jb3
 split
 ·exact jbP c (by decide) a
 ·refine Ev.trans ?_ (jh3 _ _ _ _)
  split
  ·exact (jec hex _ _ _).trans (jbP _ (by decide) a)
  ·exact jec hex _ _ _
theorem jkL {ex:Ck→Int→Ck×Int} (hex:∀ c a,Ev c (ex c a).1) (c:Ck) (a:Int):Ev c (jam ex c a).1:=by
 unfold jam
 simp only
 repeat' split
 all_goals first
  | exact .refl c
  | exact jbQ c a
  | exact jvo hex c a
  | exact ((jbQ c a).trans (hex _ _)).trans (jbm _ _ _)
  | exact ((hex c _).trans (hex _ _)).trans (jbm _ _ _)
  | exact (hex c _).trans (jbm _ _ _)
theorem jat:∀ (n:Nat) (c:Ck) (a:Int),Ev c (jac n c a).1
 | 0,c,a=>by unfold jac;exact .refl c
 | n+1,c,a=>by
  unfold jac
  split
  ·exact .refl c
  ·exact (jkL (jat n) c a).trans (jvp _ _ _)
def jio (n:Nat):Prop:=∀ (c:Ck) (a:Int),CkIn c→0≤a→a < c.tree.nodes.length→a.toNat < n→isR (c.node a).kind→ACalls Tryz.prog 252 [pR,rI a] (jdJ c) (fun v l=>v=rI (jac n c a).2∧l=jdJ (jac n c a).1)
def jqh (n:Nat):Prop:=∀ (c:Ck) (a:Int),CkIn c→c.e=0→0≤a→a < c.tree.nodes.length→a.toNat≤n→isR (c.node a).kind→ACalls Tryz.prog 272 [pR,rI a] (jdJ c) (fun v l=>v=rI (jam (jac n) c a).2∧l=jdJ (jam (jac n) c a).1)
def jtT (n:Nat):Prop:=∀ (c:Ck) (a:Int),CkIn c→0≤a→a < c.tree.nodes.length→a.toNat≤n→(c.node a).kind=21→ACalls Tryz.prog 284 [pR,rI a] (jdJ c) (fun v l=>v=rI (jb3 (jac n) c a).2∧l=jdJ (jb3 (jac n) c a).1)
set_option maxHeartbeats 1000000 in
set_option maxRecDepth 10000 in
theorem jyP (s:ByteArray) (a b:Int):PCall Tryz.prog 285 [rS s,rI a,rI b] (rI (jgA s a b)):=by
 refine jb9 Tryz.func285 Tryz.ntmps285 ?_
 (repeat' (first|refine jaa fun K hK=>?_|refine wkA ?_|(refine hK _ _ ?_;clear hK K)|(refine jae (fun hc=>?_) (fun hc=>?_)<;>first | contradiction | (exfalso;omega) | skip)|refine wkB ?_|exact True.intro|(clear hK K)))
 all_goals (refine jbS [.tmp 6] ?_ ?_<;>(try simp only [go_sem]))
 all_goals simp_all [jgA]
 all_goals omega
set_option maxHeartbeats 1000000 in
set_option maxRecDepth 10000 in
theorem jvE (n:Nat) (ht:jqh n):jio (n+1):=by
 intro c a h h0 h1 hn hk
 have hz:=h.size
 have hv:=h.vars
 by_cases he:c.e=0
 ·have htc:=ht c a h he h0 h1 (by omega) hk
  have s:=jkL (jat n) c a
  have h2:=h.ev s
  have l1:=h2.types
  have l2:=h2.fns
  rw [s.tree] at l1 l2
  rw [jac,if_neg (by omega)]
  refine jaK Tryz.func252 Tryz.ntmps252 ?_
  (refine S ?_;try exact True.intro)
  (repeat' (first|refine jaa fun K hK=>?_|refine wkA ?_|(with_reducible refine gR 5 ?_);refine dE 5 [0,1,2,3,4,5,6,7,8,9,10,11] mixed ?_|(refine hK _ _ ?_;clear hK K)|(refine jae (fun hc=>?_) (fun hc=>?_)<;>first | contradiction | (exfalso;omega) | skip)|refine cm (htc) ?_|refine wkB ?_|exact True.intro|(clear hK K)))
  (refine jbS [.tmp 4] ?_ ?_<;>(try simp only [go_sem]))
 ·rw [jac,if_pos he]
  refine jaK Tryz.func252 Tryz.ntmps252 ?_
  (refine S ?_;try exact True.intro)
  (repeat' (first|refine jaa fun K hK=>?_|refine wkA ?_|(refine hK _ _ ?_;clear hK K)|(refine jae (fun hc=>?_) (fun hc=>?_)<;>first | contradiction | (exfalso;omega) | skip)|refine wkB ?_|exact True.intro|(clear hK K)))
  (refine jbS [.tmp 4] ?_ ?_<;>(try simp only [go_sem]))
set_option maxHeartbeats 4000000 in
set_option maxRecDepth 10000 in
theorem js7 (n:Nat) (hx:jio n) (hcall:jtT n):jqh n:=by
 intro c a h he h0 h1 hn hk
 have hz:=h.size
 have hv:=h.vars
 obtain ⟨sh,hkid⟩:=jgH h h0 h1
 have hmem:∀ i,i < (c.node a).l.length→(c.kid a i).toNat < n∧0≤c.kid a i∧c.kid a i < c.tree.nodes.length:=fun i hi=>by
  have hm:c.kid a i∈(c.node a).l:=jaw hi
  have:=hkid _ hm
  omega
 have ev0:=jbQ c a
 have hn0:=h.ev ev0
 have hnm:=joo c a h h0 h1
 unfold isR isE at hk
 have e19:(c.node a).kind=1∨(c.node a).kind=19∨(c.node a).kind=2∨(c.node a).kind=3∨(c.node a).kind=4∨(c.node a).kind=21∨(c.node a).kind=5∨(c.node a).kind=9∨(c.node a).kind=6∨(c.node a).kind=7∨(c.node a).kind=8∨(c.node a).kind=20:=by omega
 rcases e19 with k | k | k | k | k | k | k | k | k | k | k | k
 ·have hk':(nth c.tree.nodes a.toNat).kind=1:=k
  rw [show jam (jac n) c a=(c,1) from by unfold jam;rw [k];rfl]
  refine jaK Tryz.func272 Tryz.ntmps272 ?_
  (refine S ?_;try exact True.intro)
  (have W:=hk';repeat' (first|refine jaa fun K hK=>?_|refine wkA ?_|(refine hK _ _ ?_;clear hK K)|(refine jae (fun hc=>?_) (fun hc=>?_)<;>first | contradiction | (exfalso;omega) | skip)|refine wkB ?_|exact True.intro|(clear hK K)));all_goals (try clear W)
  (refine ja2 [.tmp 4] ?_;try simp only [go_sem])
 ·have hk':(nth c.tree.nodes a.toNat).kind=19:=k
  rw [show jam (jac n) c a=(c,1) from by unfold jam;rw [k];rfl]
  refine jaK Tryz.func272 Tryz.ntmps272 ?_
  (refine S ?_;try exact True.intro)
  (have W:=hk';repeat' (first|refine jaa fun K hK=>?_|refine wkA ?_|(refine hK _ _ ?_;clear hK K)|(refine jae (fun hc=>?_) (fun hc=>?_)<;>first | contradiction | (exfalso;omega) | skip)|refine wkB ?_|exact True.intro|(clear hK K)));all_goals (try clear W)
  (refine ja2 [.tmp 4] ?_;try simp only [go_sem])
 ·have hk':(nth c.tree.nodes a.toNat).kind=2:=k
  rw [show jam (jac n) c a=(c,2) from by unfold jam;rw [k];rfl]
  refine jaK Tryz.func272 Tryz.ntmps272 ?_
  (refine S ?_;try exact True.intro)
  (have W:=hk';repeat' (first|refine jaa fun K hK=>?_|refine wkA ?_|(refine hK _ _ ?_;clear hK K)|(refine jae (fun hc=>?_) (fun hc=>?_)<;>first | contradiction | (exfalso;omega) | skip)|refine wkB ?_|exact True.intro|(clear hK K)));all_goals (try clear W)
  (refine ja2 [.tmp 4] ?_;try simp only [go_sem])
 ·have hk':(nth c.tree.nodes a.toNat).kind=3:=k
  rw [show jam (jac n) c a=(c,3) from by unfold jam;rw [k];rfl]
  refine jaK Tryz.func272 Tryz.ntmps272 ?_
  (refine S ?_;try exact True.intro)
  (have W:=hk';repeat' (first|refine jaa fun K hK=>?_|refine wkA ?_|(refine hK _ _ ?_;clear hK K)|(refine jae (fun hc=>?_) (fun hc=>?_)<;>first | contradiction | (exfalso;omega) | skip)|refine wkB ?_|exact True.intro|(clear hK K)));all_goals (try clear W)
  (refine ja2 [.tmp 4] ?_;try simp only [go_sem])
 ·have hk':(nth c.tree.nodes a.toNat).kind=4:=k
  rw [show jam (jac n) c a=c.named a from by unfold jam;rw [k];rfl]
  refine jaK Tryz.func272 Tryz.ntmps272 ?_
  (refine S ?_;try exact True.intro)
  (have W:=hk';repeat' (first|refine jaa fun K hK=>?_|refine wkA ?_|(refine hK _ _ ?_;clear hK K)|(refine jae (fun hc=>?_) (fun hc=>?_)<;>first | contradiction | (exfalso;omega) | skip)|refine cm (hnm) ?_|refine wkB ?_|exact True.intro|(clear hK K)));all_goals (try clear W)
  (refine ja2 [.tmp 4] ?_;try simp only [go_sem])
 ·have hk':(nth c.tree.nodes a.toNat).kind=21:=k
  rw [show jam (jac n) c a=jb3 (jac n) c a from by unfold jam;rw [k];rfl]
  have hcl:=hcall c a h h0 h1 hn k
  refine jaK Tryz.func272 Tryz.ntmps272 ?_
  (refine S ?_;try exact True.intro)
  (have W:=hk';repeat' (first|refine jaa fun K hK=>?_|refine wkA ?_|(refine hK _ _ ?_;clear hK K)|(refine jae (fun hc=>?_) (fun hc=>?_)<;>first | contradiction | (exfalso;omega) | skip)|refine cm (hcl) ?_|refine wkB ?_|exact True.intro|(clear hK K)));all_goals (try clear W)
  (refine ja2 [.tmp 4] ?_;try simp only [go_sem])
 ·have hk':(nth c.tree.nodes a.toNat).kind=5:=k
  obtain ⟨x,hl,hxe⟩:=sh.one (by omega)
  have hl1:(c.node a).l.length=1:=by rw [hl];rfl
  have hl':(nth c.tree.nodes a.toNat).l.length=1:=hl1
  obtain ⟨g1,g2,g3⟩:=hmem 0 (by omega)
  have hkx:isR (c.node (c.kid a 0)).kind:=by
   have:c.kid a 0=x:=by unfold Ck.kid;rw [hl];rfl
   rw [this];exact .inl hxe
  have hex:=hx (c.named a).1 (c.kid a 0) hn0 g2 (by rw [ev0.tree];exact g3) g1 (by rw [ev0.node];exact hkx)
  have hm:=jcO (jac n (c.named a).1 (c.kid a 0)).1 (decide ((c.named a).2=4) && decide ((jac n (c.named a).1 (c.kid a 0)).2=1)) a
  rw [show jam (jac n) c a=((jac n (c.named a).1 (c.kid a 0)).1.must (decide ((c.named a).2=4) && decide ((jac n (c.named a).1 (c.kid a 0)).2=1)) a,1) from by unfold jam;rw [k];rfl]
  refine jaK Tryz.func272 Tryz.ntmps272 ?_
  (refine S ?_;try exact True.intro)
  (have W:=hk';repeat' (first|refine jaa fun K hK=>?_|refine wkA ?_|(refine hK _ _ ?_;clear hK K)|(refine jae (fun hc=>?_) (fun hc=>?_)<;>first | contradiction | (exfalso;omega) | skip)|refine cm (hnm) ?_|refine cm (hex) ?_|refine cm (hm) ?_|refine wkB ?_|exact True.intro|(clear hK K)));all_goals (try clear W)
  (refine ja2 [.tmp 4] ?_;try simp only [go_sem])
 ·have hk':(nth c.tree.nodes a.toNat).kind=9:=k
  obtain ⟨x,y,hl,hxe,hye⟩:=sh.two (by omega)
  have hl1:(c.node a).l.length=2:=by rw [hl];rfl
  have hl':(nth c.tree.nodes a.toNat).l.length=2:=hl1
  obtain ⟨g1,g2,g3⟩:=hmem 0 (by omega)
  obtain ⟨g4,g5,g6⟩:=hmem 1 (by omega)
  have hkx:isR (c.node (c.kid a 0)).kind:=by
   have:c.kid a 0=x:=by unfold Ck.kid;rw [hl];rfl
   rw [this];exact .inl hxe
  have hky:isR (c.node (c.kid a 1)).kind:=by
   have:c.kid a 1=y:=by unfold Ck.kid;rw [hl];rfl
   rw [this];exact .inl hye
  have ev1:=jat n c (c.kid a 0)
  have hex:=hx c (c.kid a 0) h g2 g3 g1 hkx
  have hey:=hx (jac n c (c.kid a 0)).1 (c.kid a 1) (h.ev ev1) g5 (by rw [ev1.tree];exact g6) g4 (by rw [ev1.node];exact hky)
  have hb:=jyP (c.node a).name (jac n c (c.kid a 0)).2 (jac n (jac n c (c.kid a 0)).1 (c.kid a 1)).2
  have hm:=jcO (jac n (jac n c (c.kid a 0)).1 (c.kid a 1)).1 (!decide (jgA (c.node a).name (jac n c (c.kid a 0)).2 (jac n (jac n c (c.kid a 0)).1 (c.kid a 1)).2=0)) a
  rw [show jam (jac n) c a=((jac n (jac n c (c.kid a 0)).1 (c.kid a 1)).1.must (!decide (jgA (c.node a).name (jac n c (c.kid a 0)).2 (jac n (jac n c (c.kid a 0)).1 (c.kid a 1)).2=0)) a,jgA (c.node a).name (jac n c (c.kid a 0)).2 (jac n (jac n c (c.kid a 0)).1 (c.kid a 1)).2) from by unfold jam;rw [k];rfl]
  refine jaK Tryz.func272 Tryz.ntmps272 ?_
  (refine S ?_;try exact True.intro)
  (have W:=hk';repeat' (first|refine jaa fun K hK=>?_|refine wkA ?_|(refine hK _ _ ?_;clear hK K)|(refine jae (fun hc=>?_) (fun hc=>?_)<;>first | contradiction | (exfalso;omega) | skip)|refine cm (hex) ?_|refine cm (hey) ?_|refine cp (hb) ?_|refine cm (hm) ?_|refine wkB ?_|exact True.intro|(clear hK K)));all_goals (try clear W)
  (refine ja2 [.tmp 4] ?_;try simp only [go_sem])
 ·have hk':(nth c.tree.nodes a.toNat).kind=6:=k
  obtain ⟨x,hl,hxe⟩:=sh.one (by omega)
  have hl1:(c.node a).l.length=1:=by rw [hl];rfl
  have hl':(nth c.tree.nodes a.toNat).l.length=1:=hl1
  obtain ⟨g1,g2,g3⟩:=hmem 0 (by omega)
  have hkx:isR (c.node (c.kid a 0)).kind:=by
   have:c.kid a 0=x:=by unfold Ck.kid;rw [hl];rfl
   rw [this];exact .inl hxe
  have hex:=hx c (c.kid a 0) h g2 g3 g1 hkx
  have hm:=jcO (jac n c (c.kid a 0)).1 (decide ((jac n c (c.kid a 0)).2=3) || decide ((jac n c (c.kid a 0)).2=4)) a
  rw [show jam (jac n) c a=((jac n c (c.kid a 0)).1.must (decide ((jac n c (c.kid a 0)).2=3) || decide ((jac n c (c.kid a 0)).2=4)) a,1) from by unfold jam;rw [k];rfl]
  refine jaK Tryz.func272 Tryz.ntmps272 ?_
  (refine S ?_;try exact True.intro)
  (have W:=hk';repeat' (first|refine jaa fun K hK=>?_|refine wkA ?_|(refine hK _ _ ?_;clear hK K)|(refine jae (fun hc=>?_) (fun hc=>?_)<;>first | contradiction | (exfalso;omega) | skip)|refine cm (hex) ?_|refine cm (hm) ?_|refine wkB ?_|exact True.intro|(clear hK K)));all_goals (try clear W)
  (refine ja2 [.tmp 4] ?_;try simp only [go_sem])
 ·have hk':(nth c.tree.nodes a.toNat).kind=7:=k
  obtain ⟨x,hl,hxe⟩:=sh.one (by omega)
  have hl1:(c.node a).l.length=1:=by rw [hl];rfl
  have hl':(nth c.tree.nodes a.toNat).l.length=1:=hl1
  obtain ⟨g1,g2,g3⟩:=hmem 0 (by omega)
  have hkx:isR (c.node (c.kid a 0)).kind:=by
   have:c.kid a 0=x:=by unfold Ck.kid;rw [hl];rfl
   rw [this];exact .inl hxe
  have hex:=hx c (c.kid a 0) h g2 g3 g1 hkx
  have hm:=jcO (jac n c (c.kid a 0)).1 (decide ((jac n c (c.kid a 0)).2=1)) a
  rw [show jam (jac n) c a=((jac n c (c.kid a 0)).1.must (decide ((jac n c (c.kid a 0)).2=1)) a,1) from by unfold jam;rw [k];rfl]
  refine jaK Tryz.func272 Tryz.ntmps272 ?_
  (refine S ?_;try exact True.intro)
  (have W:=hk';repeat' (first|refine jaa fun K hK=>?_|refine wkA ?_|(refine hK _ _ ?_;clear hK K)|(refine jae (fun hc=>?_) (fun hc=>?_)<;>first | contradiction | (exfalso;omega) | skip)|refine cm (hex) ?_|refine cm (hm) ?_|refine wkB ?_|exact True.intro|(clear hK K)));all_goals (try clear W)
  (refine ja2 [.tmp 4] ?_;try simp only [go_sem])
 ·have hk':(nth c.tree.nodes a.toNat).kind=8:=k
  obtain ⟨x,hl,hxe⟩:=sh.one (by omega)
  have hl1:(c.node a).l.length=1:=by rw [hl];rfl
  have hl':(nth c.tree.nodes a.toNat).l.length=1:=hl1
  obtain ⟨g1,g2,g3⟩:=hmem 0 (by omega)
  have hkx:isR (c.node (c.kid a 0)).kind:=by
   have:c.kid a 0=x:=by unfold Ck.kid;rw [hl];rfl
   rw [this];exact .inl hxe
  have hex:=hx c (c.kid a 0) h g2 g3 g1 hkx
  have hm:=jcO (jac n c (c.kid a 0)).1 (decide ((jac n c (c.kid a 0)).2=2)) a
  rw [show jam (jac n) c a=((jac n c (c.kid a 0)).1.must (decide ((jac n c (c.kid a 0)).2=2)) a,2) from by unfold jam;rw [k];rfl]
  refine jaK Tryz.func272 Tryz.ntmps272 ?_
  (refine S ?_;try exact True.intro)
  (have W:=hk';repeat' (first|refine jaa fun K hK=>?_|refine wkA ?_|(refine hK _ _ ?_;clear hK K)|(refine jae (fun hc=>?_) (fun hc=>?_)<;>first | contradiction | (exfalso;omega) | skip)|refine cm (hex) ?_|refine cm (hm) ?_|refine wkB ?_|exact True.intro|(clear hK K)));all_goals (try clear W)
  (refine ja2 [.tmp 4] ?_;try simp only [go_sem])
 ·have hk':(nth c.tree.nodes a.toNat).kind=20:=k
  obtain ⟨x,hl,hxe⟩:=sh.one (by omega)
  have hl1:(c.node a).l.length=1:=by rw [hl];rfl
  have hl':(nth c.tree.nodes a.toNat).l.length=1:=hl1
  obtain ⟨g1,g2,g3⟩:=hmem 0 (by omega)
  have hkx:isR (c.node (c.kid a 0)).kind:=by
   have:c.kid a 0=x:=by unfold Ck.kid;rw [hl];rfl
   rw [this];exact .inl hxe
  have hex:=hx c (c.kid a 0) h g2 g3 g1 hkx
  have hm:=jcO (jac n c (c.kid a 0)).1 (decide ((jac n c (c.kid a 0)).2=1)) a
  rw [show jam (jac n) c a=((jac n c (c.kid a 0)).1.must (decide ((jac n c (c.kid a 0)).2=1)) a,4) from by unfold jam;rw [k];rfl]
  refine jaK Tryz.func272 Tryz.ntmps272 ?_
  (refine S ?_;try exact True.intro)
  (have W:=hk';repeat' (first|refine jaa fun K hK=>?_|refine wkA ?_|(refine hK _ _ ?_;clear hK K)|(refine jae (fun hc=>?_) (fun hc=>?_)<;>first | contradiction | (exfalso;omega) | skip)|refine cm (hex) ?_|refine cm (hm) ?_|refine wkB ?_|exact True.intro|(clear hK K)));all_goals (try clear W)
  (refine ja2 [.tmp 4] ?_;try simp only [go_sem])
theorem jcw (a:Int) (c:Ck) (ps:List GParam):jbx a c [] ps=c:=by cases ps<;>rfl
theorem jcx (a:Int) (c:Ck) (ts:List Int):jbx a c ts []=c:=by cases ts<;>rfl
theorem jos {α:Type} (f:α→ByteArray) (nm:ByteArray):∀ (l:List α) (i k:Int),0≤i→(jda f nm l i k=k∨i≤jda f nm l i k)∧(jda f nm l i k=k∨jda f nm l i k < i+l.length)
 | [],i,k,_=>by unfold jda;exact ⟨.inl rfl,.inl rfl⟩
 | v::l,i,k,hi=>by
  unfold jda
  obtain ⟨h1,h2⟩:=jos f nm l (i+1) (if f v=nm then i else k) (by omega)
  simp only [List.length_cons]
  split at h1<;>rename_i hv
  ·rw [if_pos hv] at h2 ⊢
   omega
  ·rw [if_neg hv] at h2 ⊢
   omega
set_option maxHeartbeats 4000000 in
set_option maxRecDepth 10000 in
theorem jvD (n:Nat) (hx:jio n):jtT n:=by
 intro c a h h0 h1 hn hk
 have hz:=h.size
 have hv:=h.vars
 have htf:=h.tree.fns
 have htm:=h.tree.many
 obtain ⟨sh,hkid⟩:=jgH h h0 h1
 have hck:=h.tree.chain
 have hlen:(nth c.tree.nodes a.toNat).l.length≤300:=jn0 h h0 h1
 have hkk:∀ i,i < (c.node a).l.length→isR (c.node (nth (c.node a).l i)).kind∧(nth (c.node a).l i).toNat < n∧0≤nth (c.node a).l i∧nth (c.node a).l i < c.tree.nodes.length:=fun i hi=>by
  have hm:nth (c.node a).l i∈(c.node a).l:=jaw hi
  have:=hkid _ hm
  exact ⟨.inl (sh.call hk _ hm),by omega,this.1,by omega⟩
 obtain ⟨lg1,lg2⟩:=jos GFunc.name (c.node a).name c.tree.fns 0 (-1) (by omega)
 have lg1:jaF c a=-1∨0≤jaF c a:=lg1
 have lg2:jaF c a=-1∨jaF c a < 0+c.tree.fns.length:=lg2
 refine jaK Tryz.func284 Tryz.ntmps284 ?_
 (refine S ?_;try exact True.intro)
 (repeat' (first|refine jaa fun K hK=>?_|refine wkA ?_|(refine hK _ _ ?_;clear hK K)|(refine jae (fun hc=>?_) (fun hc=>?_)<;>first | contradiction | (exfalso;omega) | skip)|refine wkB ?_|exact True.intro|(clear hK K)))
 have hKo:=hK;clear hK
 refine jah (S:=Nat×Int) [(6,2),(22,25)] (fun s=>s.1≤c.tree.fns.length∧jda GFunc.name (c.node a).name (c.tree.fns.drop s.1) s.1 s.2=jaF c a) (fun s=>[(7,rI s.1),(6,rI s.2)]) (fun _=>⟨[0,1,2,3,4,5],jdJ c++[(6,.var 53 (jaq (c.node a)))]⟩) (fun s=>c.tree.fns.length - s.1) (0,-1) ⟨by (try simp only);omega,rfl⟩ (jaH jhO lle) ?_
 rintro ⟨k,j⟩ ⟨hk1,hk2⟩ Kr hKr
 simp only at hk1 hk2
 (refine S ?_;try exact True.intro)
 by_cases hlt:k < c.tree.fns.length
 ·rw [jbj hlt] at hk2
  unfold jda at hk2
  (repeat' (first|refine jaa fun K hK=>?_|refine wkA ?_|(with_reducible refine gR 6 ?_);refine dE 6 [0,1,2,3,4,5,6,7,8,9,10,11,12] mixed ?_|(refine hK _ _ ?_;clear hK K)|(refine jae (fun hc=>?_) (fun hc=>?_)<;>first | contradiction | (exfalso;omega) | skip)|refine wkB ?_|exact True.intro|(clear hK K)))
  ·rw [if_pos hc] at hk2
   refine hKr _ _ (jaD (k+1,(k:Int)) ⟨by (try simp only);omega,by rw [← hk2];rfl⟩ (by (try simp only);omega) jhO lle)
  ·rw [if_neg hc] at hk2
   refine hKr _ _ (jaD (k+1,j) ⟨by (try simp only);omega,by rw [← hk2];rfl⟩ (by (try simp only);omega) jhO lle)
 ·rw [List.drop_eq_nil_of_le (by omega)] at hk2
  have hk2:j=jaF c a:=hk2
  subst hk2
  by_cases hneg:jaF c a < 0
  ·rw [jb3,if_pos hneg] at *
   (repeat' (first|refine jaa fun K hK=>?_|refine wkA ?_|(refine hK _ _ ?_;clear hK K)|(refine jae (fun hc=>?_) (fun hc=>?_)<;>first | contradiction | (exfalso;omega) | skip)|(refine hKo _ _ ?_)|refine cm (jdy c 40 a) ?_|refine wkB ?_|exact True.intro|(clear hK K)))
   (refine ja2 [.tmp 4] ?_;try simp only [go_sem])
  ·have hnn:0≤jaF c a:=by omega
   have hcn:(jaF c a).toNat < c.tree.fns.length:=by omega
   have hfp:=(h.tree.fn _ (jaw hcn)).2
   have e0:jb3 (jac n) c a=(jbx a (if (c.node a).l.length≠(nth c.tree.fns (jaF c a).toNat).params.length then (jbV (jac n) c (c.node a).l []).1.fails 43 a else (jbV (jac n) c (c.node a).l []).1) (jbV (jac n) c (c.node a).l []).2 (nth c.tree.fns (jaF c a).toNat).params,(nth c.tree.fns (jaF c a).toNat).ret):=by
    rw [jb3,if_neg hneg]
   (repeat' (first|refine jaa fun K hK=>?_|refine wkA ?_|(refine hK _ _ ?_;clear hK K)|(refine jae (fun hc=>?_) (fun hc=>?_)<;>first | contradiction | (exfalso;omega) | skip)|(refine hKo _ _ ?_)|refine wkB ?_|exact True.intro|(clear hK K)))
   have hKo2:=hK;clear hK
   refine ja1 (FLe.nil 8 9 3 (sz:=1) rfl (by decide) (Or.inr ⟨_,_,_,rfl,rfl⟩)) ?_
   (refine S ?_;try exact True.intro)
   refine jah (S:=Nat×Ck×List Int) [(9,3),(62,25)] (fun s=>s.1≤(c.node a).l.length∧Ev c s.2.1∧s.2.2.length=s.1∧jbV (jac n) s.2.1 ((c.node a).l.drop s.1) s.2.2=jbV (jac n) c (c.node a).l []) (fun s=>[(10,rI s.1),(9,.rs 8 s.2.2.length 1 s.2.2.length)]) (fun s=>⟨[0,1,2,3,4,5],jdJ s.2.1++[(6,.var 53 (jaq (c.node a))),(7,.var 100 (ja8 (nth c.tree.fns (jaF c a).toNat))),(8,.vec 3 1 (s.2.2.map eI))]⟩) (fun s=>(c.node a).l.length - s.1) (0,c,[]) ⟨by (try simp only);omega,.refl c,rfl,rfl⟩ (jaH jhO lle) ?_
   rintro ⟨i,q,ts⟩ ⟨hi1,ev,hts,hA⟩ Kr2 hKr2
   simp only at hi1 ev hts hA
   have hq:=h.ev ev
   have lt1:=hq.types
   have lt2:=hq.slots
   have lt3:=hq.fns
   have lt4:=hq.vars
   have lt5:=hq.size
   have hlq:(c.node a).l.length≤300:=hlen
   (refine S ?_;try exact True.intro)
   by_cases hgo:i < (c.node a).l.length∧q.e=0
   ·obtain ⟨hg1,hg2⟩:=hgo
    rw [jbj hg1,jbV,if_pos hg2] at hA
    obtain ⟨g1,g2,g3,g4⟩:=hkk i hg1
    have hxc:=hx q (nth (c.node a).l i) hq g3 (by rw [ev.tree];exact g4) g2 (by rw [ev.node];exact g1)
    (have W:=hg2;repeat' (first|refine jaa fun K hK=>?_|refine wkA ?_|(refine hK _ _ ?_;clear hK K)|(refine jae (fun hc=>?_) (fun hc=>?_)<;>first | contradiction | (exfalso;omega) | skip)|refine cm (hxc) ?_|refine wkB ?_|exact True.intro|(clear hK K)));all_goals (try clear W)
    refine hKr2 _ _ (jaD (i+1,(jac n q (nth (c.node a).l i)).1,ts++[(jac n q (nth (c.node a).l i)).2]) ⟨by (try simp only);omega,ev.trans (jat _ _ _),by simp [hts],hA⟩ (by (try simp only);omega) jhO lle)
   have hA2:jbV (jac n) c (c.node a).l []=(q,ts):=by
    rw [← hA]
    by_cases hg1:i < (c.node a).l.length
    ·rw [jbj hg1,jbV,if_neg fun e=>hgo ⟨hg1,e⟩]
    ·rw [List.drop_eq_nil_of_le (by omega),jbV]
   have hq1:q=(jbV (jac n) c (c.node a).l []).1:=by rw [hA2]
   have hq2:ts=(jbV (jac n) c (c.node a).l []).2:=by rw [hA2]
   by_cases hne:(c.node a).l.length≠(nth c.tree.fns (jaF c a).toNat).params.length
   ·have hne':(((c.node a).l.length:Int)=((nth c.tree.fns (jaF c a).toNat).params.length:Int))=False:=eq_false (by omega)
    have hcx:(q.fails 43 a).e≠0:=by unfold Ck.fails;split;(exact fun h=>by cases h);assumption
    have evx:Ev c (q.fails 43 a):=ev.trans (jbP q (by decide) a)
    have hb:((q.fails 43 a)).e=0→ts.length≤(nth c.tree.fns (jaF c a).toNat).params.length:=fun h=>(hcx h).elim
    (have W:=hne';repeat' (first|refine jaa fun K hK=>?_|refine wkA ?_|(refine hK _ _ ?_;clear hK K)|(refine jae (fun hc=>?_) (fun hc=>?_)<;>first | contradiction | (exfalso;omega) | skip)|(refine hKo2 _ _ ?_)|refine cm (jdy q 43 a) ?_|refine wkB ?_|exact True.intro|(clear hK K)));all_goals (try clear W)
    have hKo3:=hK;clear hK
    refine jah (S:=Nat×Ck) [(12,1),(97,27)] (fun s=>s.1≤ts.length∧Ev (q.fails 43 a) s.2∧jbx a s.2 (ts.drop s.1) ((nth c.tree.fns (jaF c a).toNat).params.drop s.1)=jbx a (q.fails 43 a) ts (nth c.tree.fns (jaF c a).toNat).params) (fun s=>[(12,rI s.1)]) (fun s=>⟨[0,1,2,3,4,5],jdJ s.2++[(6,.var 53 (jaq (c.node a))),(7,.var 100 (ja8 (nth c.tree.fns (jaF c a).toNat))),(8,.vec 3 1 (ts.map eI))]⟩) (fun s=>ts.length - s.1) (0,(q.fails 43 a)) ⟨by (try simp only);omega,.refl _,rfl⟩ (jaH jhO lle) ?_
    rintro ⟨m,z⟩ ⟨hm1,hm2,hm3⟩ Kr3 hKr3
    simp only at hm1 hm2 hm3
    (refine S ?_;try exact True.intro)
    by_cases hgo:m < ts.length∧z.e=0
    ·obtain ⟨hg1,hg2⟩:=hgo
     have he1:((q.fails 43 a)).e=0:=Classical.byContradiction fun h=>hm2.err h hg2
     exact (hcx he1).elim
    ·have hz:z=jbx a (q.fails 43 a) ts (nth c.tree.fns (jaF c a).toNat).params:=by
      by_cases hg1:m < ts.length
      ·have hg2:z.e≠0:=fun e=>hgo ⟨hg1,e⟩
       rw [jbj hg1] at hm3
       cases hp:(nth c.tree.fns (jaF c a).toNat).params.drop m with
       | nil=>rw [hp,jcx] at hm3;exact hm3
       | cons x y=>rw [hp,jbx,if_neg hg2] at hm3;exact hm3
      ·rw [List.drop_eq_nil_of_le (by omega),jcw] at hm3
       exact hm3
     (repeat' (first|refine jaa fun K hK=>?_|refine wkA ?_|(refine hK _ _ ?_;clear hK K)|(refine jae (fun hc=>?_) (fun hc=>?_)<;>first | contradiction | (exfalso;omega) | skip)|(refine hKo3 _ _ ?_)|refine wkB ?_|exact True.intro|(clear hK K)))
     all_goals first | (exact absurd ⟨by omega,by assumption⟩ hgo) | skip
     have e1:jb3 (jac n) c a=(z,(nth c.tree.fns (jaF c a).toNat).ret):=by rw [e0,if_pos hne,← hq1,← hq2,hz]
     all_goals (
      rw [e1]
      (refine ja2 [.tmp 4] ?_;try simp only [go_sem]))
   ·have hne':((c.node a).l.length:Int)=((nth c.tree.fns (jaF c a).toNat).params.length:Int):=by omega
    have hcx:True:=trivial
    have evx:Ev c q:=ev
    have hb:(q).e=0→ts.length≤(nth c.tree.fns (jaF c a).toNat).params.length:=fun _=>by omega
    (have W:=hne';repeat' (first|refine jaa fun K hK=>?_|refine wkA ?_|(refine hK _ _ ?_;clear hK K)|(refine jae (fun hc=>?_) (fun hc=>?_)<;>first | contradiction | (exfalso;omega) | skip)|(refine hKo2 _ _ ?_)|refine wkB ?_|exact True.intro|(clear hK K)));all_goals (try clear W)
    have hKo3:=hK;clear hK
    refine jah (S:=Nat×Ck) [(12,1),(97,27)] (fun s=>s.1≤ts.length∧Ev q s.2∧jbx a s.2 (ts.drop s.1) ((nth c.tree.fns (jaF c a).toNat).params.drop s.1)=jbx a q ts (nth c.tree.fns (jaF c a).toNat).params) (fun s=>[(12,rI s.1)]) (fun s=>⟨[0,1,2,3,4,5],jdJ s.2++[(6,.var 53 (jaq (c.node a))),(7,.var 100 (ja8 (nth c.tree.fns (jaF c a).toNat))),(8,.vec 3 1 (ts.map eI))]⟩) (fun s=>ts.length - s.1) (0,q) ⟨by (try simp only);omega,.refl _,rfl⟩ (jaH jhO lle) ?_
    rintro ⟨m,z⟩ ⟨hm1,hm2,hm3⟩ Kr3 hKr3
    simp only at hm1 hm2 hm3
    (refine S ?_;try exact True.intro)
    by_cases hgo:m < ts.length∧z.e=0
    ·obtain ⟨hg1,hg2⟩:=hgo
     have he1:(q).e=0:=Classical.byContradiction fun h=>hm2.err h hg2
     have hmp:m < (nth c.tree.fns (jaF c a).toNat).params.length:=by have:=hb he1;omega
     rw [jbj hg1,jbj hmp,jbx,if_pos hg2] at hm3
     (have W:=hg2;repeat' (first|refine jaa fun K hK=>?_|refine wkA ?_|(with_reducible refine gR 23 ?_);refine dE 23 [0,1,2,3,4,5,6,7,8,9,10,11,12,13] mixed ?_|(refine hK _ _ ?_;clear hK K)|(refine jae (fun hc=>?_) (fun hc=>?_)<;>first | contradiction | (exfalso;omega) | skip)|refine cm (jcO z (decide (nth ts m=(nth (nth c.tree.fns (jaF c a).toNat).params m).ty)) a) ?_|refine wkB ?_|exact True.intro|(clear hK K)));all_goals (try clear W)
     refine hKr3 _ _ (jaD (m+1,z.must (decide (nth ts m=(nth (nth c.tree.fns (jaF c a).toNat).params m).ty)) a) ⟨by (try simp only);omega,hm2.trans (jbm _ _ _),hm3⟩ (by (try simp only);omega) jhO lle)
    ·have hz:z=jbx a q ts (nth c.tree.fns (jaF c a).toNat).params:=by
      by_cases hg1:m < ts.length
      ·have hg2:z.e≠0:=fun e=>hgo ⟨hg1,e⟩
       rw [jbj hg1] at hm3
       cases hp:(nth c.tree.fns (jaF c a).toNat).params.drop m with
       | nil=>rw [hp,jcx] at hm3;exact hm3
       | cons x y=>rw [hp,jbx,if_neg hg2] at hm3;exact hm3
      ·rw [List.drop_eq_nil_of_le (by omega),jcw] at hm3
       exact hm3
     (repeat' (first|refine jaa fun K hK=>?_|refine wkA ?_|(refine hK _ _ ?_;clear hK K)|(refine jae (fun hc=>?_) (fun hc=>?_)<;>first | contradiction | (exfalso;omega) | skip)|(refine hKo3 _ _ ?_)|refine wkB ?_|exact True.intro|(clear hK K)))
     all_goals first | (exact absurd ⟨by omega,by assumption⟩ hgo) | skip
     have e1:jb3 (jac n) c a=(z,(nth c.tree.fns (jaF c a).toNat).ret):=by rw [e0,if_neg hne,← hq1,← hq2,hz]
     all_goals (
      rw [e1]
      (refine ja2 [.tmp 4] ?_;try simp only [go_sem]))
structure Sv (c c':Ck):Prop where
 tree:c'.tree=c.tree
 fn:c'.fn=c.fn
 size_:c'.size_=c.size_
 err:c.e≠0→c'.e≠0
 inv:CkIn c'
 pre:∃ u,c'.vars=c.vars++u
theorem Sv.refl {c:Ck} (h:CkIn c):Sv c c:=⟨rfl,rfl,rfl,id,h,[],by simp⟩
theorem Sv.of_ev {c c':Ck} (h:CkIn c) (s:Ev c c'):Sv c c':=⟨s.tree,s.fn,s.size_,s.err,h.ev s,[],by rw [s.vars];simp⟩
theorem Sv.trans {a b c:Ck} (h:Sv a b) (k:Sv b c):Sv a c:=⟨k.tree.trans h.tree,k.fn.trans h.fn,k.size_.trans h.size_,fun e=>k.err (h.err e),k.inv,by
 obtain ⟨u,hu⟩:=h.pre
 obtain ⟨v,hv⟩:=k.pre
 exact ⟨u++v,by rw [hv,hu,List.append_assoc]⟩⟩
def je1 (ex:Ck→Int→Ck×Int) (c:Ck) (a:Int):Ck:=(ex c (c.kid a 0)).1.must (!decide ((ex c (c.kid a 0)).2=0)) a
def jhs (ex:Ck→Int→Ck×Int) (c:Ck) (a:Int):Ck:=if 0≤(je1 ex c a).find (c.node a).name then (je1 ex c a).fails 41 a else je1 ex c a
def jcv (ex:Ck→Int→Ck×Int) (c:Ck) (a:Int):Ck:=if 24≤(jhs ex c a).size then (jhs ex c a).fails 4 a else jhs ex c a
def j1t (c:Ck) (a:Int) (v:GVar):Ck:={ (c.slot a c.size) with vars:=c.vars++[v],more:=c.more.drop 1,size:=c.size+1 }
theorem jht (ex:Ck→Int→Ck×Int) (c:Ck) (a:Int):jpJ ex c a=j1t (jcv ex c a) a ⟨(c.node a).name,(ex c (c.kid a 0)).2,(jcv ex c a).size⟩:=rfl
theorem jkK {ex:Ck→Int→Ck×Int} (hex:∀ c a,Ev c (ex c a).1) (c:Ck) (a:Int):Ev c (je1 ex c a):=(hex c _).trans (jbm _ _ _)
theorem jm5 {ex:Ck→Int→Ck×Int} (hex:∀ c a,Ev c (ex c a).1) (c:Ck) (a:Int):Ev c (jhs ex c a):=by
 unfold jhs
 split
 ·exact (jkK hex c a).trans (jbP _ (by decide) a)
 ·exact jkK hex c a
theorem jiE {ex:Ck→Int→Ck×Int} (hex:∀ c a,Ev c (ex c a).1) (c:Ck) (a:Int):Ev c (jcv ex c a):=by
 unfold jcv
 split
 ·exact (jm5 hex c a).trans (jbP _ (by decide) a)
 ·exact jm5 hex c a
theorem jqV {ex:Ck→Int→Ck×Int} {c:Ck} {a:Int} (h:(jcv ex c a).e=0):(jcv ex c a).size < 24:=by
 unfold jcv at h ⊢
 split
 ·rename_i hs
  rw [if_pos hs] at h
  exfalso
  unfold Ck.fails at h
  split at h
  ·cases h
  ·contradiction
 ·omega
theorem jws {c:Ck} (h:CkIn c) (a:Int) (v:GVar) (h24:c.size≤24) (hr:c.e=0→c.size < 24):Sv c (j1t c a v):=by
 refine ⟨rfl,rfl,rfl,id,⟨h.tree,h.types,by show (c.slots.set _ _).length=_;rw [List.length_set];exact h.slots,h.fns,h.size_,h.flo,h.fhi,?_,by show c.size+1≤25;omega,fun e=>by show c.size+1≤24;have:=hr e;omega⟩,[v],rfl⟩
 show ((c.vars++[v]).length:Int)≤c.size+1
 have:=h.vars
 simp
 omega
theorem jzw {ex:Ck→Int→Ck×Int} (hex:∀ c a,Ev c (ex c a).1) {c:Ck} (h:CkIn c) (he:c.e=0) (a:Int):Sv c (jpJ ex c a):=by
 rw [jht]
 have s:=jiE hex c a
 refine (Sv.of_ev h s).trans (jws (h.ev s) a _ ?_ jqV)
 rw [s.size]
 exact h.room he
theorem jp1 {ex:Ck→Int→Ck×Int} (hex:∀ c a,Ev c (ex c a).1) {c:Ck} (h:CkIn c) (a:Int):Sv c (jbd ex c a):=by
 refine Sv.of_ev h ?_
 unfold jbd
 simp only
 split
 ·exact jbP c (by decide) a
 split
 ·exact (hex c _).trans (jbm _ _ _)
 ·exact .refl c
theorem jb7 {st:Ck→Int→Ck} (hst:∀ c a,CkIn c→c.e=0→Sv c (st c a)):∀ (l:List Int) (c:Ck),CkIn c→Sv c (jaz st c l)
 | [],c,h=>by unfold jaz;exact .refl h
 | a::l,c,h=>by
  unfold jaz
  split
  ·rename_i he
   have s:=hst c a h he
   exact s.trans (jb7 hst l _ s.inv)
  ·exact .refl h
theorem jck {st:Ck→Int→Ck} (hst:∀ c a,CkIn c→c.e=0→Sv c (st c a)) {c:Ck} (h:CkIn c) (a:Int):Sv c (jaJ st c a)∧(jaJ st c a).vars=c.vars:=by
 have s:=(Sv.of_ev h (jcB c a)).trans (jb7 hst (c.node a).l _ (h.ev (jcB c a)))
 obtain ⟨u,hu⟩:=s.pre
 have hv:(jaz st (c.noteF a) (c.node a).l).vars.take (min c.vars.length (jaz st (c.noteF a) (c.node a).l).vars.length)=c.vars:=by
  rw [hu,Nat.min_eq_left (by simp),List.take_left']
  rfl
 have hi:=s.inv
 refine ⟨⟨s.tree,s.fn,s.size_,s.err,⟨hi.tree,hi.types,hi.slots,hi.fns,hi.size_,hi.flo,hi.fhi,?_,hi.size,hi.room⟩,[],by rw [List.append_nil];exact hv⟩,hv⟩
 have:=hi.vars
 show (((jaz st (c.noteF a) (c.node a).l).vars.take _).length:Int)≤_
 rw [List.length_take]
 show _≤(jaz st (c.noteF a) (c.node a).l).size
 omega
theorem jaC:∀ (n:Nat) (c:Ck) (a:Int),CkIn c→c.e=0→Sv c (jab n c a)
 | 0,c,a,h,he=>by unfold jab;exact .refl h
 | n+1,c,a,h,he=>by
  have e0:=jcB c a
  have h0:=h.ev e0
  have s0:=Sv.of_ev h e0
  have hx:=jat n
  unfold jab
  simp only
  repeat' split
  ·exact s0.trans (jzw hx h0 he a)
  ·exact s0.trans (Sv.of_ev h0 (((jbQ _ a).trans (hx _ _)).trans (jbm _ _ _)))
  ·exact s0.trans (Sv.of_ev h0 ((((jbQ _ a).trans (hx _ _)).trans (hx _ _)).trans (jbm _ _ _)))
  ·exact s0.trans (Sv.of_ev h0 (hx _ _))
  ·exact s0.trans (Sv.of_ev h0 ((hx _ _).trans (jbm _ _ _)))
  ·exact s0.trans (jp1 hx h0 a)
  ·have s1:=s0.trans (Sv.of_ev h0 ((hx (c.noteF a) ((c.noteF a).kid a 0)).trans (jbm _ (decide ((jac n (c.noteF a) ((c.noteF a).kid a 0)).2=2)) a)))
   exact s1.trans (jb7 (fun q b hq _=>(jck (jaC n) hq b).1) _ _ s1.inv)
def jqg (n:Nat):Prop:=∀ (c:Ck) (a:Int),CkIn c→c.e=0→0≤a→a < c.tree.nodes.length→a.toNat < n→isS (c.node a).kind→ACalls Tryz.prog 216 [pR,rI a] (jdJ c) (fun v l=>v=.tup []∧l=jdJ (jab n c a))
def jqf (n:Nat):Prop:=∀ (c:Ck) (a:Int),CkIn c→0≤a→a < c.tree.nodes.length→a.toNat≤n→(c.node a).kind=18→ACalls Tryz.prog 152 [pR,rI a] (jdJ c) (fun v l=>v=.tup []∧l=jdJ (jaJ (jab n) c a))
end Go.Proofs.YtfkgcobaheegbaaGreatDoor

/- The document's checker: let, blocks, returns. The document's checker: statements. The document's checker: functions. The document's checker: heads, all. The document's checker: all. No conditions. -/
import Derived.Test.YtdekkklnfifphaaGreatDoorCkF
set_option linter.all false
namespace Go.Proofs.YtdekkklnfifphaaGreatDoor
open Go Go.Gd
attribute [go_sem] j1r List.length_drop
set_option maxHeartbeats 4000000 in
set_option maxRecDepth 10000 in
theorem jzb (n:Nat) (hx:jhB n) (c:Ck) (a:Int) (h:CkIn c) (he:c.e=0) (h0:0≤a) (h1:a < c.tree.nodes.length) (hn:a.toNat≤n) (hk:(c.node a).kind=10):ACalls Tryz.prog 173 [pR,rI a] (jdL c) (fun v l=>v=.tup []∧l=jdL (jqy (jab n) c a)):=by
 obtain ⟨sh,hkid⟩:=jgr h h0 h1
 obtain ⟨x,hl,hxe⟩:=sh.right (by omega)
 have hl':(nth c.tree.nodes a.toNat).l.length=1:=by
  have:(c.node a).l.length=1:=by rw [hl];rfl
  exact this
 have hkx:c.kid a 0=x:=by unfold Ck.kid;rw [hl];rfl
 have hm:=hkid x (by rw [hl];simp)
 have hex:=hx c (c.kid a 0) h (by omega) (by omega) (by omega) (by rw [hkx];exact hxe)
 have hmust:ACalls Tryz.prog 176 _ _ (fun v l=>v=.tup []∧l=jdL (jgZ (jab n) c a)):=jcG (jab n c (c.kid a 0)).1 (!decide ((jab n c (c.kid a 0)).2=0)) a
 have eA:=jmv (jax n) c a
 have eB:=jmw (jax n) c a
 have eC:=jjN (jax n) c a
 have hA:=h.ev eA
 have hC:=h.ev eC
 have hfind:=jmD (jgZ (jab n) c a) (c.node a).name hA
 have hfa:=jdy (jgZ (jab n) c a) 41 a
 have hfb:=jdy (jiG (jab n) c a) 4 a
 have hsl:=hC.slots
 have hcz:=hC.size
 have hcv:=hC.vars
 have hcc:=eC.size
 have hc24:=h.room he
 rw [eC.tree] at hsl
 rw [ji9]
 refine jaR Tryz.func173 Tryz.ntmps173 ?_
 (refine S ?_;try exact True.intro)
 by_cases c1:0≤(jgZ (jab n) c a).find (c.node a).name
 ·have e1:jiG (jab n) c a=(jgZ (jab n) c a).fails 41 a:=if_pos c1
  rw [← e1] at hfa
  by_cases c2:24≤(jiG (jab n) c a).size
  ·have e2:jcZ (jab n) c a=(jiG (jab n) c a).fails 4 a:=if_pos c2
   rw [← e2] at hfb
   (repeat' (first|refine jaa fun K hK=>?_|refine wkA ?_|(with_reducible refine gR 7 ?_);refine dE 7 [0,1,2,3,4,5,6,7,8,9,10,11] mixed ?_|(with_reducible refine gR 8 ?_);refine dE 8 [0,1,2,3,4,5,6,7,8,9,10,11,12,13,14,15,16,17] mixed ?_|(refine hK _ _ ?_;clear hK K)|(refine jad (fun hc=>?_) (fun hc=>?_)<;>first | contradiction | (exfalso;omega) | skip)|refine cm (hex) ?_|refine cm (hmust) ?_|refine cm (hfind) ?_|refine cm (hfa) ?_|refine cm (hfb) ?_|refine jfs (jcZ (jab n) c a).vars (jcZ (jab n) c a).more [⟨(c.node a).name,(jab n c (c.kid a 0)).2,(jcZ (jab n) c a).size⟩] ?_|refine wkB ?_|exact True.intro|(clear hK K)))
   (refine jaU [] ?_;try simp only [go_sem])
  ·have e2:jcZ (jab n) c a=jiG (jab n) c a:=if_neg c2
   rw [e2] at hsl hcz hcv hcc
   rw [e2]
   (repeat' (first|refine jaa fun K hK=>?_|refine wkA ?_|(with_reducible refine gR 7 ?_);refine dE 7 [0,1,2,3,4,5,6,7,8,9,10,11] mixed ?_|(with_reducible refine gR 8 ?_);refine dE 8 [0,1,2,3,4,5,6,7,8,9,10,11,12,13,14,15,16,17] mixed ?_|(refine hK _ _ ?_;clear hK K)|(refine jad (fun hc=>?_) (fun hc=>?_)<;>first | contradiction | (exfalso;omega) | skip)|refine cm (hex) ?_|refine cm (hmust) ?_|refine cm (hfind) ?_|refine cm (hfa) ?_|refine jfs (jiG (jab n) c a).vars (jiG (jab n) c a).more [⟨(c.node a).name,(jab n c (c.kid a 0)).2,(jiG (jab n) c a).size⟩] ?_|refine wkB ?_|exact True.intro|(clear hK K)))
   (refine jaU [] ?_;try simp only [go_sem])
 ·have e1:jiG (jab n) c a=jgZ (jab n) c a:=if_neg c1
  rw [e1] at hfb
  by_cases c2:24≤(jgZ (jab n) c a).size
  ·have e2:jcZ (jab n) c a=(jgZ (jab n) c a).fails 4 a:=by unfold jcZ;rw [e1];exact if_pos c2
   rw [← e2] at hfb
   (repeat' (first|refine jaa fun K hK=>?_|refine wkA ?_|(with_reducible refine gR 7 ?_);refine dE 7 [0,1,2,3,4,5,6,7,8,9,10,11] mixed ?_|(with_reducible refine gR 8 ?_);refine dE 8 [0,1,2,3,4,5,6,7,8,9,10,11,12,13,14,15,16,17] mixed ?_|(refine hK _ _ ?_;clear hK K)|(refine jad (fun hc=>?_) (fun hc=>?_)<;>first | contradiction | (exfalso;omega) | skip)|refine cm (hex) ?_|refine cm (hmust) ?_|refine cm (hfind) ?_|refine cm (hfb) ?_|refine jfs (jcZ (jab n) c a).vars (jcZ (jab n) c a).more [⟨(c.node a).name,(jab n c (c.kid a 0)).2,(jcZ (jab n) c a).size⟩] ?_|refine wkB ?_|exact True.intro|(clear hK K)))
   (refine jaU [] ?_;try simp only [go_sem])
  ·have e2:jcZ (jab n) c a=jgZ (jab n) c a:=by unfold jcZ;rw [e1];exact if_neg c2
   rw [e2] at hsl hcz hcv hcc
   rw [e2]
   (repeat' (first|refine jaa fun K hK=>?_|refine wkA ?_|(with_reducible refine gR 7 ?_);refine dE 7 [0,1,2,3,4,5,6,7,8,9,10,11] mixed ?_|(with_reducible refine gR 8 ?_);refine dE 8 [0,1,2,3,4,5,6,7,8,9,10,11,12,13,14,15,16,17] mixed ?_|(refine hK _ _ ?_;clear hK K)|(refine jad (fun hc=>?_) (fun hc=>?_)<;>first | contradiction | (exfalso;omega) | skip)|refine cm (hex) ?_|refine cm (hmust) ?_|refine cm (hfind) ?_|refine jfs (jgZ (jab n) c a).vars (jgZ (jab n) c a).more [⟨(c.node a).name,(jab n c (c.kid a 0)).2,(jgZ (jab n) c a).size⟩] ?_|refine wkB ?_|exact True.intro|(clear hK K)))
   (refine jaU [] ?_;try simp only [go_sem])
set_option maxHeartbeats 4000000 in
set_option maxRecDepth 10000 in
theorem jnI (n:Nat) (hs:jpM n):jpL n:=by
 intro c a h h0 h1 hn hk
 obtain ⟨sh,hkid⟩:=jgr h h0 h1
 have hlen:(nth c.tree.nodes a.toNat).l.length≤300:=jni h h0 h1
 have e0:=jc4 c a
 have hq0:=h.ev e0
 have hfl:=h.fns
 have hvz:=h.vars
 have hsz:=h.size
 refine jaR Tryz.func119 Tryz.ntmps119 ?_
 (refine S ?_;try exact True.intro)
 (repeat' (first|refine jaa fun K hK=>?_|refine wkA ?_|(with_reducible refine gR 0 ?_);refine dE 0 [0,1,2,3,4,5,6,7,8,9,10,11] mixed ?_|(refine hK _ _ ?_;clear hK K)|(refine jad (fun hc=>?_) (fun hc=>?_)<;>first | contradiction | (exfalso;omega) | skip)|refine wkB ?_|exact True.intro|(clear hK K)))
 have hKo:=hK;clear hK
 refine jag (S:=Nat×Ck) [(6,1),(33,19)] (fun s=>s.1≤(c.node a).l.length∧Sv (c.noteF a) s.2∧jaC (jae n) s.2 ((c.node a).l.drop s.1)=jaC (jae n) (c.noteF a) (c.node a).l) (fun s=>[(6,rI s.1)]) (fun s=>⟨[0,1,2,3,4,5],jdL s.2⟩) (fun s=>(c.node a).l.length - s.1) (0,c.noteF a) ⟨by (try simp only);omega,.refl hq0,rfl⟩ (jau jhh lle) ?_
 rintro ⟨i,q⟩ ⟨hi,hq,hA⟩ Kr hKr
 simp only at hi hq hA
 (refine S ?_;try exact True.intro)
 have lt1:=hq.inv.types
 have lt3:=hq.inv.fns
 have lt4:=hq.inv.vars
 have lt5:=hq.inv.size
 by_cases hgo:i < (c.node a).l.length∧q.e=0
 ·obtain ⟨hg1,hg2⟩:=hgo
  have hg1':i < (nth c.tree.nodes a.toNat).l.length:=hg1
  rw [ja0 hg1,jaC,if_pos hg2] at hA
  have hm:nth (c.node a).l i∈(c.node a).l:=jam hg1
  have hb:=hkid _ hm
  have hst:=hs q (nth (c.node a).l i) hq.inv hg2 hb.1 (by rw [hq.tree];show _ < (c.tree.nodes.length:Int);omega) (by omega) (by
   have:q.node (nth (c.node a).l i)=c.node (nth (c.node a).l i):=by unfold Ck.node;rw [hq.tree];rfl
   rw [this];exact sh.block hk _ hm)
  (have W:=hg2;repeat' (first|refine jaa fun K hK=>?_|refine wkA ?_|(refine hK _ _ ?_;clear hK K)|(refine jad (fun hc=>?_) (fun hc=>?_)<;>first | contradiction | (exfalso;omega) | skip)|refine cm (hst) ?_|refine wkB ?_|exact True.intro|(clear hK K)));all_goals (try clear W)
  refine hKr _ _ (jar (i+1,jae n q (nth (c.node a).l i)) ⟨by (try simp only);omega,hq.trans (jaZ n q _ hq.inv hg2),hA⟩ (by (try simp only);omega) jhh lle)
 ·have hz:q=jaC (jae n) (c.noteF a) (c.node a).l:=by
   by_cases hg1:i < (c.node a).l.length
   ·rw [ja0 hg1,jaC,if_neg fun e=>hgo ⟨hg1,e⟩] at hA
    exact hA
   ·rw [List.drop_eq_nil_of_le (by omega),jaC] at hA
    exact hA
  have e1:jaS (jae n) c a={ q with vars:=q.vars.take (min c.vars.length q.vars.length),more:=q.vars.drop (min c.vars.length q.vars.length)++q.more }:=by
   unfold jaS
   rw [← hz]
  obtain ⟨u,hu⟩:=hq.pre
  have hu:q.vars=c.vars++u:=hu
  have hmin:min c.vars.length q.vars.length=c.vars.length:=by rw [hu];simp
  have hgo':¬(i < (nth c.tree.nodes a.toNat).l.length∧q.e=0):=hgo
  (repeat' (first|refine jaa fun K hK=>?_|refine wkA ?_|(with_reducible refine gR 7 ?_);refine dE 7 [0,1,2,3,4,5,6,7,8,9,10,11,12,13,14,15] mixed ?_|(refine hK _ _ ?_;clear hK K)|(refine jad (fun hc=>?_) (fun hc=>?_)<;>first | contradiction | (exfalso;omega) | skip)|(refine hKo _ _ ?_)|refine wkB ?_|exact True.intro|(clear hK K)))
  all_goals first | (exact absurd ⟨by have:=hc.1;omega,hc.2⟩ hgo') | skip
  have ht:q.vars.take c.vars.length=c.vars:=by rw [hu,List.take_left' rfl]
  have hd:q.vars.drop c.vars.length=u:=by rw [hu,List.drop_left' rfl]
  rw [e1,hmin,ht,hd]
  (refine jbV [] ?_ ?_<;>(try simp only [go_sem]))
  simp only [hu,List.map_append,List.append_assoc,List.length_append,Nat.add_assoc]
  rw [if_neg (by omega),Int.toNat_natCast]
set_option maxHeartbeats 4000000 in
set_option maxRecDepth 10000 in
theorem jo1 (n:Nat) (hx:jhB n) (c:Ck) (a:Int) (h:CkIn c) (h0:0≤a) (h1:a < c.tree.nodes.length) (hn:a.toNat≤n) (hk:(c.node a).kind=17):ACalls Tryz.prog 177 [pR,rI a] (jdL c) (fun v l=>v=.tup []∧l=jdL (jbh (jab n) c a)):=by
 obtain ⟨sh,hkid⟩:=jgr h h0 h1
 have hfn:=h.flo
 have hfh:=h.fhi
 have hlen:(nth c.tree.nodes a.toNat).l.length≤300:=jni h h0 h1
 have hfail:=jdy c 43 a
 have hcast:decide (((c.node a).l.length:Int)=1)=decide ((c.node a).l.length=1):=by rw [decide_eq_decide];omega
 by_cases b:decide ((c.node a).l.length=1)≠(!decide ((nth c.tree.fns c.fn.toNat).ret=0))
 ·have e1:jbh (jab n) c a=c.fails 43 a:=if_pos b
  have hb:(decide (((nth c.tree.nodes a.toNat).l.length:Int)=1) == !decide ((nth c.tree.fns c.fn.toNat).ret=0))=false:=by
   rw [show ((nth c.tree.nodes a.toNat).l.length)=(c.node a).l.length from rfl,hcast]
   simpa using b
  rw [e1]
  refine jaR Tryz.func177 Tryz.ntmps177 ?_
  (refine S ?_;try exact True.intro)
  (have W:=hb;repeat' (first|refine jaa fun K hK=>?_|refine wkA ?_|(with_reducible refine gR 1 ?_);refine dE 1 [0,1,2,3,4,5,6,7,8,9,10,11,12,13] mixed ?_|(refine hK _ _ ?_;clear hK K)|(refine jad (fun hc=>?_) (fun hc=>?_)<;>first | contradiction | (exfalso;omega) | skip)|refine cm (hfail) ?_|refine wkB ?_|exact True.intro|(clear hK K)));all_goals (try clear W)
  (refine jaU [] ?_;try simp only [go_sem])
 ·have hb:(decide (((nth c.tree.nodes a.toNat).l.length:Int)=1) == !decide ((nth c.tree.fns c.fn.toNat).ret=0))=true:=by
   rw [show ((nth c.tree.nodes a.toNat).l.length)=(c.node a).l.length from rfl,hcast]
   rw [Classical.not_not.1 b];exact beq_self_eq_true _
  by_cases hl:(c.node a).l.length=1
  ·have hl':(nth c.tree.nodes a.toNat).l.length=1:=hl
   have e1:jbh (jab n) c a=(jab n c (c.kid a 0)).1.must (decide ((jab n c (c.kid a 0)).2=(nth c.tree.fns c.fn.toNat).ret)) a:=by unfold jbh;simp only;rw [if_neg b,if_pos hl]
   rcases sh.ret hk with h2 | ⟨x,h2,h3⟩
   ·rw [h2] at hl;cases hl
   have hkx:c.kid a 0=x:=by unfold Ck.kid;rw [h2];rfl
   have hm:=hkid x (by rw [h2];simp)
   have hex:=hx c (c.kid a 0) h (by omega) (by omega) (by omega) (by rw [hkx];exact .inl h3)
   have hmust:=jcG (jab n c (c.kid a 0)).1 (decide ((jab n c (c.kid a 0)).2=(nth c.tree.fns c.fn.toNat).ret)) a
   rw [e1]
   refine jaR Tryz.func177 Tryz.ntmps177 ?_
   (refine S ?_;try exact True.intro)
   (have W:=hb;repeat' (first|refine jaa fun K hK=>?_|refine wkA ?_|(with_reducible refine gR 1 ?_);refine dE 1 [0,1,2,3,4,5,6,7,8,9,10,11,12,13] mixed ?_|(refine hK _ _ ?_;clear hK K)|(refine jad (fun hc=>?_) (fun hc=>?_)<;>first | contradiction | (exfalso;omega) | skip)|refine cm (hex) ?_|refine cm (hmust) ?_|refine wkB ?_|exact True.intro|(clear hK K)));all_goals (try clear W)
   (refine jaU [] ?_;try simp only [go_sem])
  ·have hl':¬ (nth c.tree.nodes a.toNat).l.length=1:=hl
   have e1:jbh (jab n) c a=c:=by unfold jbh;simp only;rw [if_neg b,if_neg hl]
   rw [e1]
   refine jaR Tryz.func177 Tryz.ntmps177 ?_
   (refine S ?_;try exact True.intro)
   (have W:=hb;repeat' (first|refine jaa fun K hK=>?_|refine wkA ?_|(with_reducible refine gR 1 ?_);refine dE 1 [0,1,2,3,4,5,6,7,8,9,10,11,12,13] mixed ?_|(refine hK _ _ ?_;clear hK K)|(refine jad (fun hc=>?_) (fun hc=>?_)<;>first | contradiction | (exfalso;omega) | skip)|refine wkB ?_|exact True.intro|(clear hK K)));all_goals (try clear W)
   (refine jaU [] ?_;try simp only [go_sem])
def j1n (n:Nat):Prop:=∀ (c:Ck) (a:Int),CkIn c→c.e=0→0≤a→a < c.tree.nodes.length→a.toNat≤n→(c.node a).kind=10→ACalls Tryz.prog 173 [pR,rI a] (jdL c) (fun v l=>v=.tup []∧l=jdL (jqy (jab n) c a))
def j1o (n:Nat):Prop:=∀ (c:Ck) (a:Int),CkIn c→0≤a→a < c.tree.nodes.length→a.toNat≤n→(c.node a).kind=17→ACalls Tryz.prog 177 [pR,rI a] (jdL c) (fun v l=>v=.tup []∧l=jdL (jbh (jab n) c a))
set_option maxHeartbeats 8000000 in
set_option maxRecDepth 10000 in
theorem jla (n:Nat) (hx:jhB n) (hl:j1n n) (hr:j1o n) (hbl:jpL n):jpM (n+1):=by
 intro c a h he h0 h1 hn hk
 have ev:=jc4 c a
 have hq:=h.ev ev
 obtain ⟨sh,hkid⟩:=jgr h h0 h1
 have hlen:(nth c.tree.nodes a.toNat).l.length≤300:=jni h h0 h1
 have hfl:=h.fns
 have hvz:=h.vars
 have hsz:=h.size
 have hmem:∀ i,i < (c.node a).l.length→(c.kid a i).toNat < n∧0≤c.kid a i∧c.kid a i < c.tree.nodes.length:=fun i hi=>by
  have hm:c.kid a i∈(c.node a).l:=jam hi
  have:=hkid _ hm
  omega
 have en:=jb0 (c.noteF a) a
 have hqn:=hq.ev en
 have hnm:=jnK (c.noteF a) a hq h0 h1
 have e17:(c.node a).kind=10∨(c.node a).kind=11∨(c.node a).kind=12∨(c.node a).kind=13∨(c.node a).kind=14∨(c.node a).kind=17∨((c.node a).kind=15∨(c.node a).kind=16):=by unfold isS at hk;omega
 rcases e17 with k | k | k | k | k | k | k
 ·have hk':(nth c.tree.nodes a.toNat).kind=10:=k
  have k0:((c.noteF a).node a).kind=10:=k
  have hlc:=hl (c.noteF a) a hq he h0 h1 (by omega) k0
  rw [show jae (n+1) c a=jqy (jab n) (c.noteF a) a from by unfold jae;simp only;rw [k0];rfl]
  refine jaR Tryz.func155 Tryz.ntmps155 ?_
  (refine S ?_;try exact True.intro)
  (have W:=hk';repeat' (first|refine jaa fun K hK=>?_|refine wkA ?_|(with_reducible refine gR 1 ?_);refine dE 1 [0,1,2,3,4,5,6,7,8,9,10,11] mixed ?_|(refine hK _ _ ?_;clear hK K)|(refine jad (fun hc=>?_) (fun hc=>?_)<;>first | contradiction | (exfalso;omega) | skip)|refine cm (hlc) ?_|refine wkB ?_|exact True.intro|(clear hK K)));all_goals (try clear W)
  (refine jaU [] ?_;try simp only [go_sem])
 ·have hk':(nth c.tree.nodes a.toNat).kind=11:=k
  have k0:((c.noteF a).node a).kind=11:=k
  obtain ⟨x,hl0,hx0⟩:=sh.right (by omega)
  have hl1:(c.node a).l.length=1:=by rw [hl0];rfl
  have hl':(nth c.tree.nodes a.toNat).l.length=1:=hl1
  obtain ⟨g0a,g0b,g0c⟩:=hmem 0 (by omega)
  have hk0:c.kid a 0=x:=by unfold Ck.kid;rw [hl0];rfl
  have hex:=hx ((c.noteF a).named a).1 (c.kid a 0) hqn g0b (by rw [en.tree];exact g0c) g0a (by rw [en.node];show isR (c.node (c.kid a 0)).kind;rw [hk0];exact hx0)
  have hmust:=jcG (jab n ((c.noteF a).named a).1 (c.kid a 0)).1 (decide (((c.noteF a).named a).2=(jab n ((c.noteF a).named a).1 (c.kid a 0)).2)) a
  rw [show jae (n+1) c a=(jab n ((c.noteF a).named a).1 (c.kid a 0)).1.must (decide (((c.noteF a).named a).2=(jab n ((c.noteF a).named a).1 (c.kid a 0)).2)) a from by unfold jae;simp only;rw [k0];rfl]
  refine jaR Tryz.func155 Tryz.ntmps155 ?_
  (refine S ?_;try exact True.intro)
  (have W:=hk';repeat' (first|refine jaa fun K hK=>?_|refine wkA ?_|(with_reducible refine gR 1 ?_);refine dE 1 [0,1,2,3,4,5,6,7,8,9,10,11] mixed ?_|(refine hK _ _ ?_;clear hK K)|(refine jad (fun hc=>?_) (fun hc=>?_)<;>first | contradiction | (exfalso;omega) | skip)|refine cm (hnm) ?_|refine cm (hex) ?_|refine cm (hmust) ?_|refine wkB ?_|exact True.intro|(clear hK K)));all_goals (try clear W)
  (refine jaU [] ?_;try simp only [go_sem])
 ·have hk':(nth c.tree.nodes a.toNat).kind=12:=k
  have k0:((c.noteF a).node a).kind=12:=k
  obtain ⟨x,y,hl0,hx0,hx1⟩:=sh.two (by omega)
  have hl1:(c.node a).l.length=2:=by rw [hl0];rfl
  have hl':(nth c.tree.nodes a.toNat).l.length=2:=hl1
  obtain ⟨g0a,g0b,g0c⟩:=hmem 0 (by omega)
  have hk0:c.kid a 0=x:=by unfold Ck.kid;rw [hl0];rfl
  obtain ⟨g1a,g1b,g1c⟩:=hmem 1 (by omega)
  have hk1:c.kid a 1=y:=by unfold Ck.kid;rw [hl0];rfl
  have ex1:=jax n ((c.noteF a).named a).1 (c.kid a 0)
  have hex:=hx ((c.noteF a).named a).1 (c.kid a 0) hqn g0b (by rw [en.tree];exact g0c) g0a (by rw [en.node];show isR (c.node (c.kid a 0)).kind;rw [hk0];exact .inl hx0)
  have hey:=hx (jab n ((c.noteF a).named a).1 (c.kid a 0)).1 (c.kid a 1) (hqn.ev ex1) g1b (by rw [ex1.tree,en.tree];exact g1c) g1a (by rw [ex1.node,en.node];show isR (c.node (c.kid a 1)).kind;rw [hk1];exact .inl hx1)
  have hmust:=jcG (jab n (jab n ((c.noteF a).named a).1 (c.kid a 0)).1 (c.kid a 1)).1 (decide (((c.noteF a).named a).2=4) && decide ((jab n ((c.noteF a).named a).1 (c.kid a 0)).2=1) && decide ((jab n (jab n ((c.noteF a).named a).1 (c.kid a 0)).1 (c.kid a 1)).2=1)) a
  rw [show jae (n+1) c a=(jab n (jab n ((c.noteF a).named a).1 (c.kid a 0)).1 (c.kid a 1)).1.must (decide (((c.noteF a).named a).2=4) && decide ((jab n ((c.noteF a).named a).1 (c.kid a 0)).2=1) && decide ((jab n (jab n ((c.noteF a).named a).1 (c.kid a 0)).1 (c.kid a 1)).2=1)) a from by unfold jae;simp only;rw [k0];rfl]
  refine jaR Tryz.func155 Tryz.ntmps155 ?_
  (refine S ?_;try exact True.intro)
  (have W:=hk';repeat' (first|refine jaa fun K hK=>?_|refine wkA ?_|(with_reducible refine gR 1 ?_);refine dE 1 [0,1,2,3,4,5,6,7,8,9,10,11] mixed ?_|(refine hK _ _ ?_;clear hK K)|(refine jad (fun hc=>?_) (fun hc=>?_)<;>first | contradiction | (exfalso;omega) | skip)|refine cm (hnm) ?_|refine cm (hex) ?_|refine cm (hey) ?_|refine cm (hmust) ?_|refine wkB ?_|exact True.intro|(clear hK K)));all_goals (try clear W)
  (refine jaU [] ?_;try simp only [go_sem])
 ·have hk':(nth c.tree.nodes a.toNat).kind=13:=k
  have k0:((c.noteF a).node a).kind=13:=k
  obtain ⟨x,hl0,hx0⟩:=sh.do_ (by omega)
  have hl1:(c.node a).l.length=1:=by rw [hl0];rfl
  have hl':(nth c.tree.nodes a.toNat).l.length=1:=hl1
  obtain ⟨g0a,g0b,g0c⟩:=hmem 0 (by omega)
  have hk0:c.kid a 0=x:=by unfold Ck.kid;rw [hl0];rfl
  have hex:=hx (c.noteF a) (c.kid a 0) hq g0b g0c g0a (by show isR (c.node (c.kid a 0)).kind;rw [hk0];exact .inr (.inr (.inr hx0)))
  rw [show jae (n+1) c a=(jab n (c.noteF a) (c.kid a 0)).1 from by unfold jae;simp only;rw [k0];rfl]
  refine jaR Tryz.func155 Tryz.ntmps155 ?_
  (refine S ?_;try exact True.intro)
  (have W:=hk';repeat' (first|refine jaa fun K hK=>?_|refine wkA ?_|(with_reducible refine gR 1 ?_);refine dE 1 [0,1,2,3,4,5,6,7,8,9,10,11] mixed ?_|(refine hK _ _ ?_;clear hK K)|(refine jad (fun hc=>?_) (fun hc=>?_)<;>first | contradiction | (exfalso;omega) | skip)|refine cm (hex) ?_|refine wkB ?_|exact True.intro|(clear hK K)));all_goals (try clear W)
  (refine jaU [] ?_;try simp only [go_sem])
 ·have hk':(nth c.tree.nodes a.toNat).kind=14:=k
  have k0:((c.noteF a).node a).kind=14:=k
  obtain ⟨x,hl0,hx0⟩:=sh.one (by omega)
  have hl1:(c.node a).l.length=1:=by rw [hl0];rfl
  have hl':(nth c.tree.nodes a.toNat).l.length=1:=hl1
  obtain ⟨g0a,g0b,g0c⟩:=hmem 0 (by omega)
  have hk0:c.kid a 0=x:=by unfold Ck.kid;rw [hl0];rfl
  have hex:=hx (c.noteF a) (c.kid a 0) hq g0b g0c g0a (by show isR (c.node (c.kid a 0)).kind;rw [hk0];exact .inl hx0)
  have hmust:=jcG (jab n (c.noteF a) (c.kid a 0)).1 (!decide ((jab n (c.noteF a) (c.kid a 0)).2=4)) a
  rw [show jae (n+1) c a=(jab n (c.noteF a) (c.kid a 0)).1.must (!decide ((jab n (c.noteF a) (c.kid a 0)).2=4)) a from by unfold jae;simp only;rw [k0];rfl]
  refine jaR Tryz.func155 Tryz.ntmps155 ?_
  (refine S ?_;try exact True.intro)
  (have W:=hk';repeat' (first|refine jaa fun K hK=>?_|refine wkA ?_|(with_reducible refine gR 1 ?_);refine dE 1 [0,1,2,3,4,5,6,7,8,9,10,11] mixed ?_|(refine hK _ _ ?_;clear hK K)|(refine jad (fun hc=>?_) (fun hc=>?_)<;>first | contradiction | (exfalso;omega) | skip)|refine cm (hex) ?_|refine cm (hmust) ?_|refine wkB ?_|exact True.intro|(clear hK K)));all_goals (try clear W)
  (refine jaU [] ?_;try simp only [go_sem])
 ·have hk':(nth c.tree.nodes a.toNat).kind=17:=k
  have k0:((c.noteF a).node a).kind=17:=k
  have hrc:=hr (c.noteF a) a hq h0 h1 (by omega) k0
  rw [show jae (n+1) c a=jbh (jab n) (c.noteF a) a from by unfold jae;simp only;rw [k0];rfl]
  refine jaR Tryz.func155 Tryz.ntmps155 ?_
  (refine S ?_;try exact True.intro)
  (have W:=hk';repeat' (first|refine jaa fun K hK=>?_|refine wkA ?_|(with_reducible refine gR 1 ?_);refine dE 1 [0,1,2,3,4,5,6,7,8,9,10,11] mixed ?_|(refine hK _ _ ?_;clear hK K)|(refine jad (fun hc=>?_) (fun hc=>?_)<;>first | contradiction | (exfalso;omega) | skip)|refine cm (hrc) ?_|refine wkB ?_|exact True.intro|(clear hK K)));all_goals (try clear W)
  (refine jaU [] ?_;try simp only [go_sem])
 ·have hall:1≤(c.node a).l.length∧isE (c.node (c.kid a 0)).kind∧∀ i,i < (c.node a).l.length→1≤i→(c.node (nth (c.node a).l i)).kind=18:=by
   have fin:∀ {x y:Int},(c.node a).l=[x,y]→isE (jak c.tree.nodes x)→jak c.tree.nodes y=18→1≤(c.node a).l.length∧isE (c.node (c.kid a 0)).kind∧∀ i,i < (c.node a).l.length→1≤i→(c.node (nth (c.node a).l i)).kind=18:=fun {x y} e hx hy=>by
    refine ⟨by rw [e];simp,by have:c.kid a 0=x:=(by unfold Ck.kid;rw [e];rfl);rw [this];exact hx,fun i hi h1=>?_⟩
    rw [e] at hi ⊢
    obtain rfl:i=1:=by simp at hi;omega
    exact hy
   rcases k with k | k
   ·obtain ⟨x,y,hxe,hye,hl0⟩:=sh.if_ k
    rcases hl0 with hl0 | ⟨d,hl0,hd⟩
    ·exact fin hl0 hxe hye
    ·refine ⟨by rw [hl0];simp,by have:c.kid a 0=x:=(by unfold Ck.kid;rw [hl0];rfl);rw [this];exact hxe,fun i hi h1=>?_⟩
     rw [hl0] at hi ⊢
     rcases (show i=1∨i=2 by simp at hi;omega) with rfl | rfl
     ·exact hye
     ·exact hd
   ·obtain ⟨x,y,hl0,hxe,hye⟩:=sh.while_ k
    exact fin hl0 hxe hye
  obtain ⟨hl1,hxe,hblk⟩:=hall
  have hl':1≤(nth c.tree.nodes a.toNat).l.length:=hl1
  obtain ⟨g0a,g0b,g0c⟩:=hmem 0 (by omega)
  have hex:=hx (c.noteF a) (c.kid a 0) hq g0b g0c g0a (.inl hxe)
  have eM:Ev c ((jab n (c.noteF a) (c.kid a 0)).1.must (decide ((jab n (c.noteF a) (c.kid a 0)).2=2)) a):=(ev.trans (jax n _ _)).trans (jby _ _ _)
  have hM:=h.ev eM
  have hmust:=jcG (jab n (c.noteF a) (c.kid a 0)).1 (decide ((jab n (c.noteF a) (c.kid a 0)).2=2)) a
  rcases k with k | k
  ·have hk':(nth c.tree.nodes a.toNat).kind=15:=k
   have k0:((c.noteF a).node a).kind=15:=k
   rw [show jae (n+1) c a=jaC (jaS (jae n)) ((jab n (c.noteF a) (c.kid a 0)).1.must (decide ((jab n (c.noteF a) (c.kid a 0)).2=2)) a) ((c.node a).l.drop 1) from by unfold jae;simp only;rw [k0];rfl]
   generalize hY:jaC (jaS (jae n)) ((jab n (c.noteF a) (c.kid a 0)).1.must (decide ((jab n (c.noteF a) (c.kid a 0)).2=2)) a) ((c.node a).l.drop 1)=Y
   refine jaR Tryz.func155 Tryz.ntmps155 ?_
   (refine S ?_;try exact True.intro)
   (have W:=hk';repeat' (first|refine jaa fun K hK=>?_|refine wkA ?_|(with_reducible refine gR 1 ?_);refine dE 1 [0,1,2,3,4,5,6,7,8,9,10,11] mixed ?_|(refine hK _ _ ?_;clear hK K)|(refine jad (fun hc=>?_) (fun hc=>?_)<;>first | contradiction | (exfalso;omega) | skip)|refine cm (hex) ?_|refine cm (hmust) ?_|refine wkB ?_|exact True.intro|(clear hK K)));all_goals (try clear W)
   refine jag (S:=Nat×Ck) [(12,1),(46,21)] (fun s=>s.1≤(c.node a).l.length∧1≤s.1∧CkIn s.2∧s.2.tree=c.tree∧jaC (jaS (jae n)) s.2 ((c.node a).l.drop s.1)=Y) (fun s=>[(12,rI s.1)]) (fun s=>⟨[0,1,2,3,4,5],jdL s.2++[(6,.var 68 (jaH (c.node a)))]⟩) (fun s=>(c.node a).l.length - s.1) (1,(jab n (c.noteF a) (c.kid a 0)).1.must (decide ((jab n (c.noteF a) (c.kid a 0)).2=2)) a) ⟨by (try simp only);omega,Nat.le_refl _,hM,eM.tree,hY⟩ (jau jhh lle) ?_
   rintro ⟨i,z⟩ ⟨hi,hi1,hz,hzt,hA⟩ Kr hKr
   simp only at hi hi1 hz hzt hA
   have hi':i≤(nth c.tree.nodes a.toNat).l.length:=hi
   (refine S ?_;try exact True.intro)
   by_cases hgo:i < (c.node a).l.length∧z.e=0
   ·obtain ⟨hg1,hg2⟩:=hgo
    have hg1':i < (nth c.tree.nodes a.toNat).l.length:=hg1
    rw [ja0 hg1,jaC,if_pos hg2] at hA
    have hm:nth (c.node a).l i∈(c.node a).l:=jam hg1
    have hb:=hkid _ hm
    have hbc:=hbl z (nth (c.node a).l i) hz hb.1 (by rw [hzt];omega) (by omega) (by
     have:z.node (nth (c.node a).l i)=c.node (nth (c.node a).l i):=by unfold Ck.node;rw [hzt]
     rw [this];exact hblk i hg1 hi1)
    have sz:=(jcO (fun q b hq he=>jaZ n q b hq he) hz (nth (c.node a).l i)).1
    (have W:=hg2;repeat' (first|refine jaa fun K hK=>?_|refine wkA ?_|(refine hK _ _ ?_;clear hK K)|(refine jad (fun hc=>?_) (fun hc=>?_)<;>first | contradiction | (exfalso;omega) | skip)|refine cm (hbc) ?_|refine wkB ?_|exact True.intro|(clear hK K)));all_goals (try clear W)
    refine hKr _ _ (jar (i+1,jaS (jae n) z (nth (c.node a).l i)) ⟨by (try simp only);omega,by (try simp only);omega,sz.inv,sz.tree.trans hzt,hA⟩ (by (try simp only);omega) jhh lle)
   ·have hz2:z=Y:=by
     by_cases hg1:i < (c.node a).l.length
     ·rw [ja0 hg1,jaC,if_neg fun e=>hgo ⟨hg1,e⟩] at hA
      exact hA
     ·rw [List.drop_eq_nil_of_le (by omega),jaC] at hA
      exact hA
    have hgo':¬(i < (nth c.tree.nodes a.toNat).l.length∧z.e=0):=hgo
    (repeat' (first|refine jaa fun K hK=>?_|refine wkA ?_|(refine hK _ _ ?_;clear hK K)|(refine jad (fun hc=>?_) (fun hc=>?_)<;>first | contradiction | (exfalso;omega) | skip)|refine wkB ?_|exact True.intro|(clear hK K)))
    all_goals first | (exact absurd ⟨by have:=hc.1;omega,hc.2⟩ hgo') | skip
    rw [← hz2]
    (refine jaU [] ?_;try simp only [go_sem])
  ·have hk':(nth c.tree.nodes a.toNat).kind=16:=k
   have k0:((c.noteF a).node a).kind=16:=k
   rw [show jae (n+1) c a=jaC (jaS (jae n)) ((jab n (c.noteF a) (c.kid a 0)).1.must (decide ((jab n (c.noteF a) (c.kid a 0)).2=2)) a) ((c.node a).l.drop 1) from by unfold jae;simp only;rw [k0];rfl]
   generalize hY:jaC (jaS (jae n)) ((jab n (c.noteF a) (c.kid a 0)).1.must (decide ((jab n (c.noteF a) (c.kid a 0)).2=2)) a) ((c.node a).l.drop 1)=Y
   refine jaR Tryz.func155 Tryz.ntmps155 ?_
   (refine S ?_;try exact True.intro)
   (have W:=hk';repeat' (first|refine jaa fun K hK=>?_|refine wkA ?_|(with_reducible refine gR 1 ?_);refine dE 1 [0,1,2,3,4,5,6,7,8,9,10,11] mixed ?_|(refine hK _ _ ?_;clear hK K)|(refine jad (fun hc=>?_) (fun hc=>?_)<;>first | contradiction | (exfalso;omega) | skip)|refine cm (hex) ?_|refine cm (hmust) ?_|refine wkB ?_|exact True.intro|(clear hK K)));all_goals (try clear W)
   refine jag (S:=Nat×Ck) [(12,1),(46,21)] (fun s=>s.1≤(c.node a).l.length∧1≤s.1∧CkIn s.2∧s.2.tree=c.tree∧jaC (jaS (jae n)) s.2 ((c.node a).l.drop s.1)=Y) (fun s=>[(12,rI s.1)]) (fun s=>⟨[0,1,2,3,4,5],jdL s.2++[(6,.var 68 (jaH (c.node a)))]⟩) (fun s=>(c.node a).l.length - s.1) (1,(jab n (c.noteF a) (c.kid a 0)).1.must (decide ((jab n (c.noteF a) (c.kid a 0)).2=2)) a) ⟨by (try simp only);omega,Nat.le_refl _,hM,eM.tree,hY⟩ (jau jhh lle) ?_
   rintro ⟨i,z⟩ ⟨hi,hi1,hz,hzt,hA⟩ Kr hKr
   simp only at hi hi1 hz hzt hA
   have hi':i≤(nth c.tree.nodes a.toNat).l.length:=hi
   (refine S ?_;try exact True.intro)
   by_cases hgo:i < (c.node a).l.length∧z.e=0
   ·obtain ⟨hg1,hg2⟩:=hgo
    have hg1':i < (nth c.tree.nodes a.toNat).l.length:=hg1
    rw [ja0 hg1,jaC,if_pos hg2] at hA
    have hm:nth (c.node a).l i∈(c.node a).l:=jam hg1
    have hb:=hkid _ hm
    have hbc:=hbl z (nth (c.node a).l i) hz hb.1 (by rw [hzt];omega) (by omega) (by
     have:z.node (nth (c.node a).l i)=c.node (nth (c.node a).l i):=by unfold Ck.node;rw [hzt]
     rw [this];exact hblk i hg1 hi1)
    have sz:=(jcO (fun q b hq he=>jaZ n q b hq he) hz (nth (c.node a).l i)).1
    (have W:=hg2;repeat' (first|refine jaa fun K hK=>?_|refine wkA ?_|(refine hK _ _ ?_;clear hK K)|(refine jad (fun hc=>?_) (fun hc=>?_)<;>first | contradiction | (exfalso;omega) | skip)|refine cm (hbc) ?_|refine wkB ?_|exact True.intro|(clear hK K)));all_goals (try clear W)
    refine hKr _ _ (jar (i+1,jaS (jae n) z (nth (c.node a).l i)) ⟨by (try simp only);omega,by (try simp only);omega,sz.inv,sz.tree.trans hzt,hA⟩ (by (try simp only);omega) jhh lle)
   ·have hz2:z=Y:=by
     by_cases hg1:i < (c.node a).l.length
     ·rw [ja0 hg1,jaC,if_neg fun e=>hgo ⟨hg1,e⟩] at hA
      exact hA
     ·rw [List.drop_eq_nil_of_le (by omega),jaC] at hA
      exact hA
    have hgo':¬(i < (nth c.tree.nodes a.toNat).l.length∧z.e=0):=hgo
    (repeat' (first|refine jaa fun K hK=>?_|refine wkA ?_|(refine hK _ _ ?_;clear hK K)|(refine jad (fun hc=>?_) (fun hc=>?_)<;>first | contradiction | (exfalso;omega) | skip)|refine wkB ?_|exact True.intro|(clear hK K)))
    all_goals first | (exact absurd ⟨by have:=hc.1;omega,hc.2⟩ hgo') | skip
    rw [← hz2]
    (refine jaU [] ?_;try simp only [go_sem])
end Go.Proofs.YtdekkklnfifphaaGreatDoor
namespace Go.Gd
open Go
theorem FLe.vague {F:List AV} {H:Hp} (j k:Nat) {t:TypeId} {cs:List AV} (hj:H.get j=some (.var t cs)):FLe F H F (H.put j (.var t (cs.set k .any))):=fun w tm h1 h2=>by
 obtain ⟨a',b'⟩:=jlq (cs':=cs.set k .any) h1 (j:=j) (t:=t) (cs:=cs) hj (by simp) fun n x x' v hx hx' hv=>by
  rw [List.getElem?_set] at hx'
  by_cases hn:k=n
  ·subst hn
   rw [if_pos rfl] at hx'
   split at hx'
   ·cases hx';exact .any _
   ·cases hx'
  ·rw [if_neg hn] at hx'
   rw [hx] at hx';cases hx';exact hv
 exact ⟨w,rfl,a',h2,b'.toB⟩
theorem jkN {P:Program} {id:Nat} {l:List Oper} {b:Bool} {Q:Exit→List AV→Hp→Prop} {F:List AV} {H:Hp} {q:Prop} (j k:Nat) {t:TypeId} {cs:List AV} {i m sz n:Nat} (h:q) (hj:H.get j=some (.var t cs):=by rfl) (hc:cs[k]?=some (.rs i m sz n):=by rfl) (e:AWP P (.region id l.toArray b) Q F (H.put j (.var t (cs.set k .any)))=q:=by first | (simp only [go_sem];rfl) | rfl):AWP P (.region id l.toArray b) Q F H:=jaD (FLe.vague j k hj) (e ▸ h)
end Go.Gd
namespace Go.Proofs.YtdekkklnfifphaaGreatDoor
open Go Go.Gd
theorem jeH:∀ n,jhB n
 | 0=>fun c a h h0 h1 hn=>by omega
 | n+1=>jvK n (js6 n (jeH n) (jvI n (jeH n)))
theorem jlb:∀ n,jpM n
 | 0=>fun c a h he h0 h1 hn=>by omega
 | n+1=>jla n (jeH n) (fun c a h he h0 h1 hn hk=>jzb n (jeH n) c a h he h0 h1 hn hk) (fun c a h h0 h1 hn hk=>jo1 n (jeH n) c a h h0 h1 hn hk) (jnI n (jlb n))
def jhp (c:Ck):List AV:=[jaI jaH 5 c.tree.nodes,jaI jbn 5 c.tree.fns,.rs 1 c.types.length 1 c.types.length,.rs 2 c.slots.length 1 c.slots.length,.rs 3 c.fns.length 1 c.fns.length,.rs 4 c.size_.length 1 c.size_.length,rI c.fn,.any,rI c.size,rI c.e,rI c.at_]
def jfQ (c:Ck):List (Nat×Row):=[(0,.var 133 (jhp c)),(1,.vec 3 1 (c.types.map eI)),(2,.vec 3 1 (c.slots.map eI)),(3,.vec 3 1 (c.fns.map eI)),(4,.vec 3 1 (c.size_.map eI))]
attribute [go_sem] jfQ jhp
structure CkIn0 (c:Ck):Prop where
 tree:TreeOk c.tree
 types:c.types.length=c.tree.nodes.length
 slots:c.slots.length=c.tree.nodes.length
 fns:c.fns.length=c.tree.nodes.length
def jfi (c:Ck) (v:GVar):Ck:={ c with vars:=c.vars++[v],more:=c.more.drop 1,size:=c.size+1 }
attribute [go_sem] jfi
theorem jj1 {c:Ck} (h:CkIn c) (v:GVar) (hs:c.size≤20):CkIn (jfi c v):=⟨h.tree,h.types,h.slots,h.fns,h.size_,h.flo,h.fhi,by
 have:=h.vars
 show ((c.vars++[v]).length:Int)≤c.size+1
 simp
 omega,by show c.size+1≤25;omega,fun _=>by show c.size+1≤24;omega⟩
set_option maxHeartbeats 4000000 in
set_option maxRecDepth 10000 in
theorem jmE (c:Ck) (k:Nat) (h:CkIn0 c) (hk:k < c.tree.fns.length) (hsz:c.size_.length < 6):ACalls Tryz.prog 73 [pR,rI k] (jfQ c) (fun v l=>v=.tup []∧l=jfQ (jay c k)):=by
 have hff:=h.tree.fns
 have hfn:=h.tree.fn _ (jam hk)
 have hp3:=hfn.2
 have hbk:=h.tree.body _ (jam hk)
 have hbm:=h.tree.chain.mem (nth c.tree.fns k).body (List.mem_map.2 ⟨_,jam hk,rfl⟩)
 refine jaR Tryz.func73 Tryz.ntmps73 ?_
 (refine S ?_;try exact True.intro)
 (repeat' (first|refine jaa fun K hK=>?_|refine wkA ?_|(refine hK _ _ ?_;clear hK K)|(refine jad (fun hc=>?_) (fun hc=>?_)<;>first | contradiction | (exfalso;omega) | skip)|refine al 6 ?_|refine wkB ?_|exact True.intro|(clear hK K)))
 have hKo:=hK;clear hK
 refine jaD (FLe.nilC 5 0 7 70 3 rfl (by decide) rfl rfl) ?_
 (refine S ?_;try exact True.intro)
 generalize hc0:({ c with fn:=(k:Int),vars:=[],more:=[],size:=0 }:Ck)=c0
 have hi0:CkIn c0:=by
  subst hc0
  exact ⟨h.tree,h.types,h.slots,h.fns,by show c.size_.length≤6;omega,by show (0:Int)≤k;omega,by show (k:Int) < (c.tree.fns.length:Int);omega,by show ((0:Nat):Int)≤0;omega,by show (0:Int)≤25;omega,fun _=>by show (0:Int)≤24;omega⟩
 have hc1:jay c k=(fun c2:Ck=>{ c2 with size_:=c2.size_++[c2.size],vars:=[],more:=[] }) (if (jaF (nth c.tree.fns k).body c0 (nth c.tree.fns k).params 0).e=0 then jaS (jae c.tree.nodes.length) (jaF (nth c.tree.fns k).body c0 (nth c.tree.fns k).params 0) (nth c.tree.fns k).body else jaF (nth c.tree.fns k).body c0 (nth c.tree.fns k).params 0):=by subst hc0;rfl
 refine jaD (FLe.perm (jdL c0++[(6,.var 66 (jbn (nth c.tree.fns k)))]) (fun i=>by subst hc0;simp only [go_sem,jas];(repeat' split)<;>first | rfl | omega)) ?_
 refine jag (S:=Nat×Ck) [(5,1),(25,50)] (fun s=>s.1≤(nth c.tree.fns k).params.length∧CkIn s.2∧s.2.size=s.1∧s.2.vars.length=s.1∧s.2.tree=c.tree∧s.2.size_=c.size_∧jaF (nth c.tree.fns k).body s.2 ((nth c.tree.fns k).params.drop s.1) s.1=jaF (nth c.tree.fns k).body c0 (nth c.tree.fns k).params 0) (fun s=>[(5,rI s.1)]) (fun s=>⟨[0,1,2,3,4],jdL s.2++[(6,.var 66 (jbn (nth c.tree.fns k)))]⟩) (fun s=>(nth c.tree.fns k).params.length - s.1) (0,c0) ⟨by (try simp only);omega,hi0,by subst hc0;rfl,by subst hc0;rfl,by subst hc0;rfl,by subst hc0;rfl,rfl⟩ (jau rfl lle) ?_
 rintro ⟨i,q⟩ ⟨hi,hq,hqs,hqv,hqt,hqz,hA⟩ Kr hKr
 simp only at hi hq hqs hqv hqt hqz hA
 (refine S ?_;try exact True.intro)
 by_cases hlt:i < (nth c.tree.fns k).params.length
 ·rw [ja0 hlt,jaF] at hA
  have hfind:=jmD q (nth (nth c.tree.fns k).params i).name hq
  have hfa:=jdy q 41 (nth c.tree.fns k).body
  by_cases hf:0≤q.find (nth (nth c.tree.fns k).params i).name
  ·rw [if_pos hf] at hA
   have ef:=jbZ q (e:=41) (by decide) (nth c.tree.fns k).body
   have hv1:=ef.vars
   have hz1:=ef.size
   have hi1:=hq.ev ef
   have hvl:(q.fails 41 (nth c.tree.fns k).body).vars.length=i:=by rw [hv1,hqv]
   (repeat' (first|refine jaa fun K hK=>?_|refine wkA ?_|(with_reducible refine gR 9 ?_);refine dE 9 [0,1,2,3,4,5,6,7,8,9,10,11,12,13,14,15,16,17,18,19,20,21,22,23] mixed ?_|(refine hK _ _ ?_;clear hK K)|(refine jad (fun hc=>?_) (fun hc=>?_)<;>first | contradiction | (exfalso;omega) | skip)|refine cm (hfind) ?_|refine cm (hfa) ?_|refine jfs (q.fails 41 (nth c.tree.fns k).body).vars (q.fails 41 (nth c.tree.fns k).body).more [⟨(nth (nth c.tree.fns k).params i).name,(nth (nth c.tree.fns k).params i).ty,(i:Int)⟩] ?_|refine wkB ?_|exact True.intro|(clear hK K)))
   refine hKr _ _ (jar (i+1,jfi (q.fails 41 (nth c.tree.fns k).body) ⟨(nth (nth c.tree.fns k).params i).name,(nth (nth c.tree.fns k).params i).ty,(i:Int)⟩) ⟨by (try simp only);omega,jj1 hi1 _ (by omega),by show (q.fails 41 (nth c.tree.fns k).body).size+1=_;omega,by show ((q.fails 41 (nth c.tree.fns k).body).vars++[_]).length=i+1;rw [List.length_append,hvl];rfl,ef.tree.trans hqt,ef.size_.trans hqz,hA⟩ (by (try simp only);omega) jhh lle)
  ·rw [if_neg hf] at hA
   (repeat' (first|refine jaa fun K hK=>?_|refine wkA ?_|(with_reducible refine gR 9 ?_);refine dE 9 [0,1,2,3,4,5,6,7,8,9,10,11,12,13,14,15,16,17,18,19,20,21,22,23] mixed ?_|(refine hK _ _ ?_;clear hK K)|(refine jad (fun hc=>?_) (fun hc=>?_)<;>first | contradiction | (exfalso;omega) | skip)|refine cm (hfind) ?_|refine jfs q.vars q.more [⟨(nth (nth c.tree.fns k).params i).name,(nth (nth c.tree.fns k).params i).ty,(i:Int)⟩] ?_|refine wkB ?_|exact True.intro|(clear hK K)))
   refine hKr _ _ (jar (i+1,jfi q ⟨(nth (nth c.tree.fns k).params i).name,(nth (nth c.tree.fns k).params i).ty,(i:Int)⟩) ⟨by (try simp only);omega,jj1 hq _ (by omega),by show q.size+1=_;omega,by show (q.vars++[_]).length=i+1;rw [List.length_append,hqv];rfl,hqt,hqz,hA⟩ (by (try simp only);omega) jhh lle)
 ·have hz:q=jaF (nth c.tree.fns k).body c0 (nth c.tree.fns k).params 0:=by
   rw [List.drop_eq_nil_of_le (by omega)] at hA
   exact hA
  rw [← hz] at hc1
  by_cases he:q.e=0
  ·rw [if_pos he] at hc1
   have sb:=(jcO (fun q b hq he=>jaZ c.tree.nodes.length q b hq he) hq (nth c.tree.fns k).body).1
   have hbc:=jnI c.tree.nodes.length (jlb _) q (nth c.tree.fns k).body hq hbm.1 (by rw [hqt];omega) (by omega) (by unfold Ck.node;rw [hqt];exact hbk)
   have hzl:(jaS (jae c.tree.nodes.length) q (nth c.tree.fns k).body).size_.length < 6:=by rw [sb.size_,hqz];exact hsz
   (have W:=he;repeat' (first|refine jkN (id:=13) 0 7 ?_|refine jaa fun K hK=>?_|refine wkA ?_|(with_reducible refine gR 13 ?_);refine dE 13 [0,1,2,3,4,5,6,7,8,9,10,11,12,13,14,15] mixed ?_|(refine hK _ _ ?_;clear hK K)|(refine jad (fun hc=>?_) (fun hc=>?_)<;>first | contradiction | (exfalso;omega) | skip)|(refine hKo _ _ ?_)|refine cm (hbc) ?_|refine wkB ?_|exact True.intro|(clear hK K)));all_goals (try clear W)
   rw [hc1]
   (refine jaU [] ?_;try simp only [go_sem])
  ·rw [if_neg he] at hc1
   have hzl:q.size_.length < 6:=by rw [hqz];exact hsz
   (have W:=he;repeat' (first|refine jkN (id:=13) 0 7 ?_|refine jaa fun K hK=>?_|refine wkA ?_|(with_reducible refine gR 13 ?_);refine dE 13 [0,1,2,3,4,5,6,7,8,9,10,11,12,13,14,15] mixed ?_|(refine hK _ _ ?_;clear hK K)|(refine jad (fun hc=>?_) (fun hc=>?_)<;>first | contradiction | (exfalso;omega) | skip)|(refine hKo _ _ ?_)|refine wkB ?_|exact True.intro|(clear hK K)));all_goals (try clear W)
   rw [hc1]
   (refine jaU [] ?_;try simp only [go_sem])
set_option maxHeartbeats 1000000 in
set_option maxRecDepth 10000 in
theorem jk6 (c:Ck) (e a:Int):ACalls Tryz.prog 117 [pR,rI e,rI a] (jfQ c) (fun v l=>v=.tup []∧l=jfQ (c.fails e a)):=by
 refine jaR Tryz.func117 Tryz.ntmps117 ?_
 (refine S ?_;try exact True.intro)
 (repeat' (first|refine jaa fun K hK=>?_|refine wkA ?_|(refine hK _ _ ?_;clear hK K)|(refine jad (fun hc=>?_) (fun hc=>?_)<;>first | contradiction | (exfalso;omega) | skip)|refine wkB ?_|exact True.intro|(clear hK K)))
 ·(refine jbV [] ?_ ?_<;>(try simp only [go_sem]))
  simp only [Ck.fails,if_pos hc,jfQ,jhp]
 ·(refine jbV [] ?_ ?_<;>(try simp only [go_sem]))
  simp only [Ck.fails,if_neg hc,jfQ,jhp]
theorem jjP (x:GFunc):∀ (l:List GFunc) (c:Ck),Ev c (jcD x c l)
 | [],c=>by unfold jcD;exact .refl c
 | f::l,c=>by
  unfold jcD
  refine Ev.trans ?_ (jjP x l _)
  split
  ·exact jbZ c (by decide) _
  ·exact .refl c
theorem jhO (fns:List GFunc):∀ (n:Nat) (c:Ck) (m:Bool) (i:Nat),Ev c (jcq fns c m i n).1
 | 0,c,m,i=>by unfold jcq;exact .refl c
 | n+1,c,m,i=>by
  unfold jcq
  exact (jjP _ _ _).trans (jhO fns n _ _ _)
theorem jno (c:Ck):Ev c (jb6 c):=by
 unfold jb6
 simp only
 split
 ·exact jhO _ _ _ _ _
 ·exact (jhO _ _ _ _ _).trans (jbZ _ (by decide) _)
set_option maxHeartbeats 4000000 in
set_option maxRecDepth 10000 in
theorem js3 (c:Ck) (h:c.tree.fns.length≤6):ACalls Tryz.prog 72 [pR] (jfQ c) (fun v l=>v=.tup []∧l=jfQ (jb6 c)):=by
 refine jaR Tryz.func72 Tryz.ntmps72 ?_
 (refine S ?_;try exact True.intro)
 (repeat' (first|refine jaa fun K hK=>?_|refine wkA ?_|(refine hK _ _ ?_;clear hK K)|(refine jad (fun hc=>?_) (fun hc=>?_)<;>first | contradiction | (exfalso;omega) | skip)|refine wkB ?_|exact True.intro|(clear hK K)))
 have hKo:=hK;clear hK
 refine jag (S:=Nat×Ck×Bool) [(3,3),(12,55)] (fun s=>s.1≤c.tree.fns.length∧jcq c.tree.fns s.2.1 s.2.2 s.1 (c.tree.fns.length - s.1)=jcq c.tree.fns c false 0 c.tree.fns.length∧s.2.1.tree=c.tree) (fun s=>[(4,rI s.1),(3,rB s.2.2)]) (fun s=>⟨[0,1,2,3,4],jfQ s.2.1⟩) (fun s=>c.tree.fns.length - s.1) (0,c,false) ⟨by (try simp only);omega,rfl,rfl⟩ (jau jhh lle) ?_
 rintro ⟨i,q,m⟩ ⟨hi,hA,hqt⟩ Kr hKr
 simp only at hi hA hqt
 (refine S ?_;try exact True.intro)
 by_cases hlt:i < c.tree.fns.length
 ·rw [show c.tree.fns.length - i=(c.tree.fns.length - (i+1))+1 by omega,jcq] at hA
  (repeat' (first|refine jaa fun K hK=>?_|refine wkA ?_|(refine hK _ _ ?_;clear hK K)|(refine jad (fun hc=>?_) (fun hc=>?_)<;>first | contradiction | (exfalso;omega) | skip)|refine wkB ?_|exact True.intro|(clear hK K)))
  have hKi:=hK;clear hK
  have hKb:=hK;clear hK
  refine jag (S:=Nat×Ck) [(5,1),(18,23)] (fun s=>s.1≤i∧jcD (nth c.tree.fns i) s.2 ((c.tree.fns.take i).drop s.1)=jcD (nth c.tree.fns i) q (c.tree.fns.take i)) (fun s=>[(5,rI s.1)]) (fun s=>⟨[0,1,2,3,4],jfQ s.2⟩) (fun s=>i - s.1) (0,q) ⟨by (try simp only);omega,rfl⟩ (jau jhh lle) ?_
  rintro ⟨k,z⟩ ⟨hk,hB⟩ Kj hKj
  simp only at hk hB
  (refine S ?_;try exact True.intro)
  by_cases hkl:k < i
  ·have hkt:k < (c.tree.fns.take i).length:=by rw [List.length_take];omega
   have hnt:nth (c.tree.fns.take i) k=nth c.tree.fns k:=by simp [nth,List.getD_eq_getElem?_getD,List.getElem?_take,hkl]
   rw [ja0 hkt,hnt,jcD] at hB
   have hfa:=jk6 z 41 (nth c.tree.fns i).body
   (repeat' (first|refine jaa fun K hK=>?_|refine wkA ?_|(with_reducible refine gR 8 ?_);refine dE 8 [0,1,2,3,4,5,6,7,8,9,10] mixed ?_|(refine hK _ _ ?_;clear hK K)|(refine jad (fun hc=>?_) (fun hc=>?_)<;>first | contradiction | (exfalso;omega) | skip)|refine cm (hfa) ?_|refine wkB ?_|exact True.intro|(clear hK K)))
   ·rw [if_pos hc] at hB
    refine hKj _ _ (jar (k+1,z.fails 41 (nth c.tree.fns i).body) ⟨by (try simp only);omega,hB⟩ (by (try simp only);omega) jhh lle)
   ·rw [if_neg hc] at hB
    refine hKj _ _ (jar (k+1,z) ⟨by (try simp only);omega,hB⟩ (by (try simp only);omega) jhh lle)
  ·rw [List.drop_eq_nil_of_le (by rw [List.length_take];omega),jcD] at hB
   (repeat' (first|refine jaa fun K hK=>?_|refine wkA ?_|(refine hK _ _ ?_;clear hK K)|(refine jad (fun hc=>?_) (fun hc=>?_)<;>first | contradiction | (exfalso;omega) | skip)|(refine hKi _ _ ?_)|(refine hKb _ _ ?_)|refine wkB ?_|exact True.intro|(clear hK K)))
   refine hKr _ _ (jar (i+1,z,m || ji6 (nth c.tree.fns i)) ⟨by (try simp only);omega,by rw [← hB] at hA;exact hA,by rw [hB];exact (jjP _ _ _).tree.trans hqt⟩ (by (try simp only);omega) jhh (by simp only [go_sem,LLe,Nat.reduceAdd,AV.raw.injEq,Value.int.injEq,Value.slice.injEq,Value.pointer.injEq,AV.rs.injEq,ji6];try omega))
 ·rw [show c.tree.fns.length - i=0 by omega,jcq] at hA
  have hz:jb6 c=if m=true then q else q.fails 44 0:=by unfold jb6;rw [← hA]
  have hfa:=jk6 q 44 0
  cases m
  ·rw [if_neg (by decide)] at hz
   (repeat' (first|refine jaa fun K hK=>?_|refine wkA ?_|(refine hK _ _ ?_;clear hK K)|(refine jad (fun hc=>?_) (fun hc=>?_)<;>first | contradiction | (exfalso;omega) | skip)|(refine hKo _ _ ?_)|refine cm (hfa) ?_|refine wkB ?_|exact True.intro|(clear hK K)))
   rw [hz]
   (refine jbV [] ?_ ?_<;>(try simp only [go_sem]))
  ·rw [if_pos rfl] at hz
   (repeat' (first|refine jaa fun K hK=>?_|refine wkA ?_|(refine hK _ _ ?_;clear hK K)|(refine jad (fun hc=>?_) (fun hc=>?_)<;>first | contradiction | (exfalso;omega) | skip)|(refine hKo _ _ ?_)|refine wkB ?_|exact True.intro|(clear hK K)))
   rw [hz]
   (refine jbV [] ?_ ?_<;>(try simp only [go_sem]))
theorem jfW (body:Int):∀ (ps:List GParam) (c:Ck) (i:Int),CkIn c→c.size+ps.length≤20→CkIn (jaF body c ps i)∧(jaF body c ps i).tree=c.tree∧(jaF body c ps i).size_=c.size_
 | [],c,i,h,hs=>by unfold jaF;exact ⟨h,rfl,rfl⟩
 | p::ps,c,i,h,hs=>by
  unfold jaF
  simp only [List.length_cons] at hs
  have fin:∀ c1:Ck,Ev c c1→CkIn (jaF body (jfi c1 ⟨p.name,p.ty,i⟩) ps (i+1))∧(jaF body (jfi c1 ⟨p.name,p.ty,i⟩) ps (i+1)).tree=c.tree∧(jaF body (jfi c1 ⟨p.name,p.ty,i⟩) ps (i+1)).size_=c.size_:=fun c1 s=>by
   have h1:=h.ev s
   have hz:=s.size
   obtain ⟨a,b,d⟩:=jfW body ps (jfi c1 ⟨p.name,p.ty,i⟩) (i+1) (jj1 h1 _ (by omega)) (by show c1.size+1+_≤20;omega)
   exact ⟨a,b.trans s.tree,d.trans s.size_⟩
  simp only
  split
  ·exact fin _ (jbZ c (by decide) body)
  ·exact fin _ (.refl c)
theorem jfy {c:Ck} (h:CkIn0 c) {k:Nat} (hk:k < c.tree.fns.length) (hsz:c.size_.length < 6):CkIn0 (jay c k)∧(jay c k).tree=c.tree∧(jay c k).size_.length=c.size_.length+1:=by
 have hp3:=(h.tree.fn _ (jam hk)).2
 have hi0:CkIn { c with fn:=(k:Int),vars:=[],more:=[],size:=0 }:=⟨h.tree,h.types,h.slots,h.fns,by show c.size_.length≤6;omega,by show (0:Int)≤k;omega,by show (k:Int) < (c.tree.fns.length:Int);omega,by show ((0:Nat):Int)≤0;omega,by show (0:Int)≤25;omega,fun _=>by show (0:Int)≤24;omega⟩
 obtain ⟨a,b,d⟩:=jfW (nth c.tree.fns k).body (nth c.tree.fns k).params _ 0 hi0 (by show (0:Int)+_≤20;omega)
 unfold jay
 simp only
 split
 ·have s:=(jcO (fun q b hq he=>jaZ c.tree.nodes.length q b hq he) a (nth c.tree.fns k).body).1
  have hi:=s.inv
  refine ⟨⟨hi.tree,hi.types,hi.slots,hi.fns⟩,s.tree.trans b,?_⟩
  show ((jaS (jae c.tree.nodes.length) _ _).size_++[_]).length=_
  rw [List.length_append,s.size_,d];rfl
 ·refine ⟨⟨a.tree,a.types,a.slots,a.fns⟩,b,?_⟩
  show ((jaF _ _ _ _).size_++[_]).length=_
  rw [List.length_append,d];rfl
def ckN (t:GTree) (n:Nat):Ck:=⟨t,(t.nodes.take n).map fun _=>0,(t.nodes.take n).map fun _=>-1,(t.nodes.take n).map fun _=>0,[],0,[],[],0,0,0⟩
theorem ju3 (t:GTree) {n:Nat} (h:t.nodes.length≤n):ckN t n=ck0 t:=by simp [ckN,ck0,List.take_of_length_le h]
theorem jsH (t:GTree) {n:Nat} (h:n < t.nodes.length):ckN t (n+1)={ ckN t n with types:=(ckN t n).types++[0],slots:=(ckN t n).slots++[-1],fns:=(ckN t n).fns++[0] }:=by
 simp [ckN,ja8 h]
theorem ju4 (t:GTree) {n:Nat} (h:n≤t.nodes.length):(ckN t n).types.length=n∧(ckN t n).slots.length=n∧(ckN t n).fns.length=n:=by
 simp [ckN];omega
@[go_sem] theorem jxk (t:GTree) (l:List AV):jcp t++l=jaI jaH 5 t.nodes::jaI jbn 5 t.fns::l:=rfl
set_option maxHeartbeats 4000000 in
set_option maxRecDepth 10000 in
theorem jy7 (t:GTree) (h:TreeOk t):PCall Tryz.prog 45 [.agg (jcp t)] (.tup [.agg (jah (jaL t).1),rI (jaL t).2.1,rI (jaL t).2.2]):=by
 have hf:=h.fns
 have hm:=h.many
 refine jbO Tryz.func45 Tryz.ntmps45 ?_
 (repeat' (first|refine jaa fun K hK=>?_|refine wkA ?_|(refine hK _ _ ?_;clear hK K)|(refine jad (fun hc=>?_) (fun hc=>?_)<;>first | contradiction | (exfalso;omega) | skip)|refine bx 10 ?_|refine al 11 ?_|refine bx 0 ?_|refine wkB ?_|exact True.intro|(clear hK K)))
 have hKo:=hK;clear hK
 refine jaD (FLe.nilC 1 0 2 3 1 rfl (by decide) rfl rfl) ?_
 (refine S ?_;try exact True.intro)
 refine jaD (FLe.nilC 2 0 3 3 1 rfl (by decide) rfl rfl) ?_
 (refine S ?_;try exact True.intro)
 refine jaD (FLe.nilC 3 0 4 3 1 rfl (by decide) rfl rfl) ?_
 (refine S ?_;try exact True.intro)
 refine jaD (FLe.nilC 4 0 5 3 1 rfl (by decide) rfl rfl) ?_
 (refine S ?_;try exact True.intro)
 refine jaD (FLe.vague 0 7 rfl) ?_
 (refine S ?_;try exact True.intro)
 refine jaD (FLe.perm (jfQ (ckN t 0)++[(10,.var 27 (jcp t)),(11,.var 29 [.raw (.slice none 0 0),.raw (.slice none 0 0),.raw (.slice none 0 0),.raw (.slice none 0 0),.raw (.slice none 0 0),.raw (.slice none 0 0)])]) (fun i=>by simp only [go_sem,jas,ckN];(repeat' split)<;>first | rfl | omega)) ?_
 refine jag (S:=Nat) [(6,1),(12,40)] (fun k=>k≤t.nodes.length) (fun k=>[(6,rI k)]) (fun k=>⟨[],jfQ (ckN t k)++[(10,.var 27 (jcp t)),(11,.var 29 [.raw (.slice none 0 0),.raw (.slice none 0 0),.raw (.slice none 0 0),.raw (.slice none 0 0),.raw (.slice none 0 0),.raw (.slice none 0 0)])]⟩) (fun k=>t.nodes.length - k) 0 (Nat.zero_le _) (jau rfl lle) ?_
 rintro k hk Kr hKr
 obtain ⟨l1,l2,l3⟩:=ju4 t hk
 (refine S ?_;try exact True.intro)
 by_cases hlt:k < t.nodes.length
 ·(repeat' (first|refine jaa fun K hK=>?_|refine wkA ?_|(refine hK _ _ ?_;clear hK K)|(refine jad (fun hc=>?_) (fun hc=>?_)<;>first | contradiction | (exfalso;omega) | skip)|refine wkB ?_|exact True.intro|(clear hK K)))
  refine hKr _ _ (jar (k+1) (by omega) (by omega) (by rw [jsH t hlt];exact jhh) lle)
 ·have hall:=ju3 t (n:=k) (by omega)
  rw [hall] at *
  have hh:=js3 (ck0 t) hf
  (repeat' (first|refine jaa fun K hK=>?_|refine wkA ?_|(refine hK _ _ ?_;clear hK K)|(refine jad (fun hc=>?_) (fun hc=>?_)<;>first | contradiction | (exfalso;omega) | skip)|(refine hKo _ _ ?_)|refine cm (hh) ?_|refine wkB ?_|exact True.intro|(clear hK K)))
  have hKo2:=hK;clear hK
  have eh:=jno (ck0 t)
  have hi0:CkIn0 (jb6 (ck0 t)):=⟨by rw [eh.tree];exact h,by rw [eh.types,eh.tree];simp [ck0],by rw [eh.slots,eh.tree];simp [ck0],by rw [eh.fns,eh.tree];simp [ck0]⟩
  refine jag (S:=Nat×Ck) [(7,1),(54,17)] (fun s=>s.1≤t.fns.length∧CkIn0 s.2∧s.2.tree=t∧s.2.size_.length=s.1∧jat s.2 s.1 (t.fns.length - s.1)=jcE t) (fun s=>[(7,rI s.1)]) (fun s=>⟨[],jfQ s.2++[(10,.var 27 (jcp t)),(11,.var 29 [.raw (.slice none 0 0),.raw (.slice none 0 0),.raw (.slice none 0 0),.raw (.slice none 0 0),.raw (.slice none 0 0),.raw (.slice none 0 0)])]⟩) (fun s=>t.fns.length - s.1) (0,jb6 (ck0 t)) ⟨Nat.zero_le _,hi0,eh.tree,by rw [eh.size_];rfl,rfl⟩ (jau jhh lle) ?_
  rintro ⟨i,q⟩ ⟨hi,hq,hqt,hqz,hA⟩ Kr2 hKr2
  simp only at hi hq hqt hqz hA
  (refine S ?_;try exact True.intro)
  by_cases hgo:i < t.fns.length∧q.e=0
  ·obtain ⟨hg1,hg2⟩:=hgo
   rw [show t.fns.length - i=(t.fns.length - (i+1))+1 by omega,jat,if_pos hg2] at hA
   have hkf:i < q.tree.fns.length:=by rw [hqt];exact hg1
   have hfc:=jmE q i hq hkf (by omega)
   obtain ⟨f1,f2,f3⟩:=jfy hq hkf (by omega)
   (have W:=hg2;repeat' (first|refine jaa fun K hK=>?_|refine wkA ?_|(refine hK _ _ ?_;clear hK K)|(refine jad (fun hc=>?_) (fun hc=>?_)<;>first | contradiction | (exfalso;omega) | skip)|refine cm (hfc) ?_|refine wkB ?_|exact True.intro|(clear hK K)));all_goals (try clear W)
   refine hKr2 _ _ (jar (i+1,jay q i) ⟨by (try simp only);omega,f1,f2.trans hqt,by (try simp only);omega,hA⟩ (by (try simp only);omega) jhh lle)
  ·have hz:q=jcE t:=by
    rw [← hA]
    by_cases hg1:i < t.fns.length
    ·rw [show t.fns.length - i=(t.fns.length - (i+1))+1 by omega,jat,if_neg fun e=>hgo ⟨hg1,e⟩]
    ·rw [show t.fns.length - i=0 by omega,jat]
   by_cases he:q.e=0
   ·have hr:jaL t=(q.prog,0,0):=by unfold jaL;rw [← hz,if_neg (fun h=>h he)]
    have hlen:¬ i < t.fns.length:=fun h=>hgo ⟨h,he⟩
    (have W:=he;repeat' (first|refine jaa fun K hK=>?_|refine wkA ?_|(refine hK _ _ ?_;clear hK K)|(refine jad (fun hc=>?_) (fun hc=>?_)<;>first | contradiction | (exfalso;omega) | skip)|(refine hKo2 _ _ ?_)|refine wkB ?_|exact True.intro|(clear hK K)));all_goals (try clear W)
    rw [hr]
    refine jfG [.cell 2 29,.tmp 3,.tmp 4] ?_
    refine VToL.tup (ds:=[.agg (jah q.prog),rI 0,rI 0]) ?_
    refine And.intro (VToL.agg (ds:=jah q.prog) ?_) (And.intro (.same _ rfl) (And.intro (.same _ rfl) trivial))
    simp only [jah,Ck.prog]
    exact vtl
   ·have hr:jaL t=(jdX,q.at_,q.e):=by unfold jaL;rw [← hz,if_pos he]
    (have W:=he;repeat' (first|refine jaa fun K hK=>?_|refine wkA ?_|(with_reducible refine gR 14 ?_);refine dA 14 [11] [0,1,2,3,4,5,6,7,8,9,10,11] mixed ?_|(refine hK _ _ ?_;clear hK K)|(refine jad (fun hc=>?_) (fun hc=>?_)<;>first | contradiction | (exfalso;omega) | skip)|(refine hKo2 _ _ ?_)|refine wkB ?_|exact True.intro|(clear hK K)));all_goals (try clear W)
    rw [hr]
    refine jfG [.cell 2 29,.tmp 3,.tmp 4] ?_
    refine VToL.tup (ds:=[.agg (jah jdX),rI _,rI _]) ?_
    refine And.intro (VToL.agg (ds:=jah jdX) ?_) (And.intro (.same _ rfl) (And.intro (.same _ rfl) trivial))
    simp only [jah,jdX]
    exact vtl
end Go.Proofs.YtdekkklnfifphaaGreatDoor

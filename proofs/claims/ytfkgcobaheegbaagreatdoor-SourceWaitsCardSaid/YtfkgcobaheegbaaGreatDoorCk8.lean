/- The document's checker: let, blocks, returns. The document's checker: statements. The document's checker: functions. The document's checker: heads, all. The document's checker: all. No conditions. -/
import Derived.Test.YtfkgcobaheegbaaGreatDoorCkF
set_option linter.all false
namespace Go.Proofs.YtfkgcobaheegbaaGreatDoor
open Go Go.Gd
attribute [go_sem] j0r List.length_drop
set_option maxHeartbeats 4000000 in
set_option maxRecDepth 10000 in
theorem jx0 (n:Nat) (hx:jhM n) (c:Ck) (a:Int) (h:CkIn c) (he:c.e=0) (h0:0≤a) (h1:a < c.tree.nodes.length) (hn:a.toNat≤n) (hk:(c.node a).kind=10):ACalls Tryz.prog 250 [pR,rI a] (jdE c) (fun v l=>v=.tup []∧l=jdE (jrB (jae n) c a)):=by
 obtain ⟨sh,hkid⟩:=jgm h h0 h1
 obtain ⟨x,hl,hxe⟩:=sh.right (by omega)
 have hl':(nth c.tree.nodes a.toNat).l.length=1:=by
  have:(c.node a).l.length=1:=by rw [hl];rfl
  exact this
 have hkx:c.kid a 0=x:=by unfold Ck.kid;rw [hl];rfl
 have hm:=hkid x (by rw [hl];simp)
 have hex:=hx c (c.kid a 0) h (by omega) (by omega) (by omega) (by rw [hkx];exact hxe)
 have hmust:ACalls Tryz.prog 253 _ _ (fun v l=>v=.tup []∧l=jdE (jhA (jae n) c a)):=jcF (jae n c (c.kid a 0)).1 (!decide ((jae n c (c.kid a 0)).2=0)) a
 have eA:=jmo (jaA n) c a
 have eB:=jmp (jaA n) c a
 have eC:=jjY (jaA n) c a
 have hA:=h.ev eA
 have hC:=h.ev eC
 have hfind:=jmw (jhA (jae n) c a) (c.node a).name hA
 have hfa:=jdv (jhA (jae n) c a) 41 a
 have hfb:=jdv (jjp (jae n) c a) 4 a
 have hsl:=hC.slots
 have hcz:=hC.size
 have hcv:=hC.vars
 have hcc:=eC.size
 have hc24:=h.room he
 rw [eC.tree] at hsl
 rw [jlf]
 refine jaw Tryz.func250 Tryz.ntmps250 ?_
 (refine S ?_;try exact True.intro)
 by_cases c1:0≤(jhA (jae n) c a).find (c.node a).name
 ·have e1:jjp (jae n) c a=(jhA (jae n) c a).fails 41 a:=if_pos c1
  rw [← e1] at hfa
  by_cases c2:24≤(jjp (jae n) c a).size
  ·have e2:jc6 (jae n) c a=(jjp (jae n) c a).fails 4 a:=if_pos c2
   rw [← e2] at hfb
   (repeat' (first|refine jaa fun K hK=>?_|refine wkA ?_|(with_reducible refine gR 7 ?_);refine dE 7 [0,1,2,3,4,5,6,7,8,9,10,11] mixed ?_|(with_reducible refine gR 8 ?_);refine dE 8 [0,1,2,3,4,5,6,7,8,9,10,11,12,13,14,15,16,17] mixed ?_|(refine hK _ _ ?_;clear hK K)|(refine jad (fun hc=>?_) (fun hc=>?_)<;>first | contradiction | (exfalso;omega) | skip)|refine cm (hex) ?_|refine cm (hmust) ?_|refine cm (hfind) ?_|refine cm (hfa) ?_|refine cm (hfb) ?_|refine jgi (jc6 (jae n) c a).vars (jc6 (jae n) c a).more [⟨(c.node a).name,(jae n c (c.kid a 0)).2,(jc6 (jae n) c a).size⟩] ?_|refine wkB ?_|exact True.intro|(clear hK K)))
   (refine jaN [] ?_;try simp only [go_sem])
  ·have e2:jc6 (jae n) c a=jjp (jae n) c a:=if_neg c2
   rw [e2] at hsl hcz hcv hcc
   rw [e2]
   (repeat' (first|refine jaa fun K hK=>?_|refine wkA ?_|(with_reducible refine gR 7 ?_);refine dE 7 [0,1,2,3,4,5,6,7,8,9,10,11] mixed ?_|(with_reducible refine gR 8 ?_);refine dE 8 [0,1,2,3,4,5,6,7,8,9,10,11,12,13,14,15,16,17] mixed ?_|(refine hK _ _ ?_;clear hK K)|(refine jad (fun hc=>?_) (fun hc=>?_)<;>first | contradiction | (exfalso;omega) | skip)|refine cm (hex) ?_|refine cm (hmust) ?_|refine cm (hfind) ?_|refine cm (hfa) ?_|refine jgi (jjp (jae n) c a).vars (jjp (jae n) c a).more [⟨(c.node a).name,(jae n c (c.kid a 0)).2,(jjp (jae n) c a).size⟩] ?_|refine wkB ?_|exact True.intro|(clear hK K)))
   (refine jaN [] ?_;try simp only [go_sem])
 ·have e1:jjp (jae n) c a=jhA (jae n) c a:=if_neg c1
  rw [e1] at hfb
  by_cases c2:24≤(jhA (jae n) c a).size
  ·have e2:jc6 (jae n) c a=(jhA (jae n) c a).fails 4 a:=by unfold jc6;rw [e1];exact if_pos c2
   rw [← e2] at hfb
   (repeat' (first|refine jaa fun K hK=>?_|refine wkA ?_|(with_reducible refine gR 7 ?_);refine dE 7 [0,1,2,3,4,5,6,7,8,9,10,11] mixed ?_|(with_reducible refine gR 8 ?_);refine dE 8 [0,1,2,3,4,5,6,7,8,9,10,11,12,13,14,15,16,17] mixed ?_|(refine hK _ _ ?_;clear hK K)|(refine jad (fun hc=>?_) (fun hc=>?_)<;>first | contradiction | (exfalso;omega) | skip)|refine cm (hex) ?_|refine cm (hmust) ?_|refine cm (hfind) ?_|refine cm (hfb) ?_|refine jgi (jc6 (jae n) c a).vars (jc6 (jae n) c a).more [⟨(c.node a).name,(jae n c (c.kid a 0)).2,(jc6 (jae n) c a).size⟩] ?_|refine wkB ?_|exact True.intro|(clear hK K)))
   (refine jaN [] ?_;try simp only [go_sem])
  ·have e2:jc6 (jae n) c a=jhA (jae n) c a:=by unfold jc6;rw [e1];exact if_neg c2
   rw [e2] at hsl hcz hcv hcc
   rw [e2]
   (repeat' (first|refine jaa fun K hK=>?_|refine wkA ?_|(with_reducible refine gR 7 ?_);refine dE 7 [0,1,2,3,4,5,6,7,8,9,10,11] mixed ?_|(with_reducible refine gR 8 ?_);refine dE 8 [0,1,2,3,4,5,6,7,8,9,10,11,12,13,14,15,16,17] mixed ?_|(refine hK _ _ ?_;clear hK K)|(refine jad (fun hc=>?_) (fun hc=>?_)<;>first | contradiction | (exfalso;omega) | skip)|refine cm (hex) ?_|refine cm (hmust) ?_|refine cm (hfind) ?_|refine jgi (jhA (jae n) c a).vars (jhA (jae n) c a).more [⟨(c.node a).name,(jae n c (c.kid a 0)).2,(jhA (jae n) c a).size⟩] ?_|refine wkB ?_|exact True.intro|(clear hK K)))
   (refine jaN [] ?_;try simp only [go_sem])
set_option maxHeartbeats 4000000 in
set_option maxRecDepth 10000 in
theorem jny (n:Nat) (hs:jpr n):jpq n:=by
 intro c a h h0 h1 hn hk
 obtain ⟨sh,hkid⟩:=jgm h h0 h1
 have hlen:(nth c.tree.nodes a.toNat).l.length≤300:=jng h h0 h1
 have e0:=jc2 c a
 have hq0:=h.ev e0
 have hfl:=h.fns
 have hvz:=h.vars
 have hsz:=h.size
 refine jaw Tryz.func152 Tryz.ntmps152 ?_
 (refine S ?_;try exact True.intro)
 (repeat' (first|refine jaa fun K hK=>?_|refine wkA ?_|(with_reducible refine gR 0 ?_);refine dE 0 [0,1,2,3,4,5,6,7,8,9,10,11] mixed ?_|(refine hK _ _ ?_;clear hK K)|(refine jad (fun hc=>?_) (fun hc=>?_)<;>first | contradiction | (exfalso;omega) | skip)|refine wkB ?_|exact True.intro|(clear hK K)))
 have hKo:=hK;clear hK
 refine jah (S:=Nat×Ck) [(6,1),(33,19)] (fun s=>s.1≤(c.node a).l.length∧Sv (c.noteF a) s.2∧jaI (jaf n) s.2 ((c.node a).l.drop s.1)=jaI (jaf n) (c.noteF a) (c.node a).l) (fun s=>[(6,rI s.1)]) (fun s=>⟨[0,1,2,3,4,5],jdE s.2⟩) (fun s=>(c.node a).l.length - s.1) (0,c.noteF a) ⟨by (try simp only);omega,.refl hq0,rfl⟩ (jaE jgX lle) ?_
 rintro ⟨i,q⟩ ⟨hi,hq,hA⟩ Kr hKr
 simp only at hi hq hA
 (refine S ?_;try exact True.intro)
 have lt1:=hq.inv.types
 have lt3:=hq.inv.fns
 have lt4:=hq.inv.vars
 have lt5:=hq.inv.size
 by_cases hgo:i < (c.node a).l.length∧q.e=0
 ·obtain ⟨hg1,hg2⟩:=hgo
  have hg1':i < (nth c.tree.nodes a.toNat).l.length:=hg1
  rw [jbz hg1,jaI,if_pos hg2] at hA
  have hm:nth (c.node a).l i∈(c.node a).l:=jaP hg1
  have hb:=hkid _ hm
  have hst:=hs q (nth (c.node a).l i) hq.inv hg2 hb.1 (by rw [hq.tree];show _ < (c.tree.nodes.length:Int);omega) (by omega) (by
   have:q.node (nth (c.node a).l i)=c.node (nth (c.node a).l i):=by unfold Ck.node;rw [hq.tree];rfl
   rw [this];exact sh.block hk _ hm)
  (have W:=hg2;repeat' (first|refine jaa fun K hK=>?_|refine wkA ?_|(refine hK _ _ ?_;clear hK K)|(refine jad (fun hc=>?_) (fun hc=>?_)<;>first | contradiction | (exfalso;omega) | skip)|refine cm (hst) ?_|refine wkB ?_|exact True.intro|(clear hK K)));all_goals (try clear W)
  refine hKr _ _ (jau (i+1,jaf n q (nth (c.node a).l i)) ⟨by (try simp only);omega,hq.trans (ja3 n q _ hq.inv hg2),hA⟩ (by (try simp only);omega) jgX lle)
 ·have hz:q=jaI (jaf n) (c.noteF a) (c.node a).l:=by
   by_cases hg1:i < (c.node a).l.length
   ·rw [jbz hg1,jaI,if_neg fun e=>hgo ⟨hg1,e⟩] at hA
    exact hA
   ·rw [List.drop_eq_nil_of_le (by omega),jaI] at hA
    exact hA
  have e1:ja0 (jaf n) c a={ q with vars:=q.vars.take (min c.vars.length q.vars.length),more:=q.vars.drop (min c.vars.length q.vars.length)++q.more }:=by
   unfold ja0
   rw [← hz]
  obtain ⟨u,hu⟩:=hq.pre
  have hu:q.vars=c.vars++u:=hu
  have hmin:min c.vars.length q.vars.length=c.vars.length:=by rw [hu];simp
  have hgo':¬(i < (nth c.tree.nodes a.toNat).l.length∧q.e=0):=hgo
  (repeat' (first|refine jaa fun K hK=>?_|refine wkA ?_|(with_reducible refine gR 7 ?_);refine dE 7 [0,1,2,3,4,5,6,7,8,9,10,11,12,13,14,15] mixed ?_|(refine hK _ _ ?_;clear hK K)|(refine jad (fun hc=>?_) (fun hc=>?_)<;>first | contradiction | (exfalso;omega) | skip)|(refine hKo _ _ ?_)|refine wkB ?_|exact True.intro|(clear hK K)))
  all_goals first | (exact absurd ⟨by have:=hc.1;omega,hc.2⟩ hgo') | skip
  have ht:q.vars.take c.vars.length=c.vars:=by rw [hu,List.take_left' rfl]
  have hd:q.vars.drop c.vars.length=u:=by rw [hu,List.drop_left' rfl]
  rw [e1,hmin,ht,hd]
  (refine jbM [] ?_ ?_<;>(try simp only [go_sem]))
  simp only [hu,List.map_append,List.append_assoc,List.length_append,Nat.add_assoc]
  rw [if_neg (by omega),Int.toNat_natCast]
set_option maxHeartbeats 4000000 in
set_option maxRecDepth 10000 in
theorem joO (n:Nat) (hx:jhM n) (c:Ck) (a:Int) (h:CkIn c) (h0:0≤a) (h1:a < c.tree.nodes.length) (hn:a.toNat≤n) (hk:(c.node a).kind=17):ACalls Tryz.prog 254 [pR,rI a] (jdE c) (fun v l=>v=.tup []∧l=jdE (jbD (jae n) c a)):=by
 obtain ⟨sh,hkid⟩:=jgm h h0 h1
 have hfn:=h.flo
 have hfh:=h.fhi
 have hlen:(nth c.tree.nodes a.toNat).l.length≤300:=jng h h0 h1
 have hfail:=jdv c 43 a
 have hcast:decide (((c.node a).l.length:Int)=1)=decide ((c.node a).l.length=1):=by rw [decide_eq_decide];omega
 by_cases b:decide ((c.node a).l.length=1)≠(!decide ((nth c.tree.fns c.fn.toNat).ret=0))
 ·have e1:jbD (jae n) c a=c.fails 43 a:=if_pos b
  have hb:(decide (((nth c.tree.nodes a.toNat).l.length:Int)=1) == !decide ((nth c.tree.fns c.fn.toNat).ret=0))=false:=by
   rw [show ((nth c.tree.nodes a.toNat).l.length)=(c.node a).l.length from rfl,hcast]
   simpa using b
  rw [e1]
  refine jaw Tryz.func254 Tryz.ntmps254 ?_
  (refine S ?_;try exact True.intro)
  (have W:=hb;repeat' (first|refine jaa fun K hK=>?_|refine wkA ?_|(with_reducible refine gR 1 ?_);refine dE 1 [0,1,2,3,4,5,6,7,8,9,10,11,12,13] mixed ?_|(refine hK _ _ ?_;clear hK K)|(refine jad (fun hc=>?_) (fun hc=>?_)<;>first | contradiction | (exfalso;omega) | skip)|refine cm (hfail) ?_|refine wkB ?_|exact True.intro|(clear hK K)));all_goals (try clear W)
  (refine jaN [] ?_;try simp only [go_sem])
 ·have hb:(decide (((nth c.tree.nodes a.toNat).l.length:Int)=1) == !decide ((nth c.tree.fns c.fn.toNat).ret=0))=true:=by
   rw [show ((nth c.tree.nodes a.toNat).l.length)=(c.node a).l.length from rfl,hcast]
   rw [Classical.not_not.1 b];exact beq_self_eq_true _
  by_cases hl:(c.node a).l.length=1
  ·have hl':(nth c.tree.nodes a.toNat).l.length=1:=hl
   have e1:jbD (jae n) c a=(jae n c (c.kid a 0)).1.must (decide ((jae n c (c.kid a 0)).2=(nth c.tree.fns c.fn.toNat).ret)) a:=by unfold jbD;simp only;rw [if_neg b,if_pos hl]
   rcases sh.ret hk with h2 | ⟨x,h2,h3⟩
   ·rw [h2] at hl;cases hl
   have hkx:c.kid a 0=x:=by unfold Ck.kid;rw [h2];rfl
   have hm:=hkid x (by rw [h2];simp)
   have hex:=hx c (c.kid a 0) h (by omega) (by omega) (by omega) (by rw [hkx];exact .inl h3)
   have hmust:=jcF (jae n c (c.kid a 0)).1 (decide ((jae n c (c.kid a 0)).2=(nth c.tree.fns c.fn.toNat).ret)) a
   rw [e1]
   refine jaw Tryz.func254 Tryz.ntmps254 ?_
   (refine S ?_;try exact True.intro)
   (have W:=hb;repeat' (first|refine jaa fun K hK=>?_|refine wkA ?_|(with_reducible refine gR 1 ?_);refine dE 1 [0,1,2,3,4,5,6,7,8,9,10,11,12,13] mixed ?_|(refine hK _ _ ?_;clear hK K)|(refine jad (fun hc=>?_) (fun hc=>?_)<;>first | contradiction | (exfalso;omega) | skip)|refine cm (hex) ?_|refine cm (hmust) ?_|refine wkB ?_|exact True.intro|(clear hK K)));all_goals (try clear W)
   (refine jaN [] ?_;try simp only [go_sem])
  ·have hl':¬ (nth c.tree.nodes a.toNat).l.length=1:=hl
   have e1:jbD (jae n) c a=c:=by unfold jbD;simp only;rw [if_neg b,if_neg hl]
   rw [e1]
   refine jaw Tryz.func254 Tryz.ntmps254 ?_
   (refine S ?_;try exact True.intro)
   (have W:=hb;repeat' (first|refine jaa fun K hK=>?_|refine wkA ?_|(with_reducible refine gR 1 ?_);refine dE 1 [0,1,2,3,4,5,6,7,8,9,10,11,12,13] mixed ?_|(refine hK _ _ ?_;clear hK K)|(refine jad (fun hc=>?_) (fun hc=>?_)<;>first | contradiction | (exfalso;omega) | skip)|refine wkB ?_|exact True.intro|(clear hK K)));all_goals (try clear W)
   (refine jaN [] ?_;try simp only [go_sem])
def j0m (n:Nat):Prop:=∀ (c:Ck) (a:Int),CkIn c→c.e=0→0≤a→a < c.tree.nodes.length→a.toNat≤n→(c.node a).kind=10→ACalls Tryz.prog 250 [pR,rI a] (jdE c) (fun v l=>v=.tup []∧l=jdE (jrB (jae n) c a))
def j0n (n:Nat):Prop:=∀ (c:Ck) (a:Int),CkIn c→0≤a→a < c.tree.nodes.length→a.toNat≤n→(c.node a).kind=17→ACalls Tryz.prog 254 [pR,rI a] (jdE c) (fun v l=>v=.tup []∧l=jdE (jbD (jae n) c a))
set_option maxHeartbeats 8000000 in
set_option maxRecDepth 10000 in
theorem jld (n:Nat) (hx:jhM n) (hl:j0m n) (hr:j0n n) (hbl:jpq n):jpr (n+1):=by
 intro c a h he h0 h1 hn hk
 have ev:=jc2 c a
 have hq:=h.ev ev
 obtain ⟨sh,hkid⟩:=jgm h h0 h1
 have hlen:(nth c.tree.nodes a.toNat).l.length≤300:=jng h h0 h1
 have hfl:=h.fns
 have hvz:=h.vars
 have hsz:=h.size
 have hmem:∀ i,i < (c.node a).l.length→(c.kid a i).toNat < n∧0≤c.kid a i∧c.kid a i < c.tree.nodes.length:=fun i hi=>by
  have hm:c.kid a i∈(c.node a).l:=jaP hi
  have:=hkid _ hm
  omega
 have en:=jb0 (c.noteF a) a
 have hqn:=hq.ev en
 have hnm:=jnz (c.noteF a) a hq h0 h1
 have e17:(c.node a).kind=10∨(c.node a).kind=11∨(c.node a).kind=12∨(c.node a).kind=13∨(c.node a).kind=14∨(c.node a).kind=17∨((c.node a).kind=15∨(c.node a).kind=16):=by unfold isS at hk;omega
 rcases e17 with k | k | k | k | k | k | k
 ·have hk':(nth c.tree.nodes a.toNat).kind=10:=k
  have k0:((c.noteF a).node a).kind=10:=k
  have hlc:=hl (c.noteF a) a hq he h0 h1 (by omega) k0
  rw [show jaf (n+1) c a=jrB (jae n) (c.noteF a) a from by unfold jaf;simp only;rw [k0];rfl]
  refine jaw Tryz.func216 Tryz.ntmps216 ?_
  (refine S ?_;try exact True.intro)
  (have W:=hk';repeat' (first|refine jaa fun K hK=>?_|refine wkA ?_|(with_reducible refine gR 1 ?_);refine dE 1 [0,1,2,3,4,5,6,7,8,9,10,11] mixed ?_|(refine hK _ _ ?_;clear hK K)|(refine jad (fun hc=>?_) (fun hc=>?_)<;>first | contradiction | (exfalso;omega) | skip)|refine cm (hlc) ?_|refine wkB ?_|exact True.intro|(clear hK K)));all_goals (try clear W)
  (refine jaN [] ?_;try simp only [go_sem])
 ·have hk':(nth c.tree.nodes a.toNat).kind=11:=k
  have k0:((c.noteF a).node a).kind=11:=k
  obtain ⟨x,hl0,hx0⟩:=sh.right (by omega)
  have hl1:(c.node a).l.length=1:=by rw [hl0];rfl
  have hl':(nth c.tree.nodes a.toNat).l.length=1:=hl1
  obtain ⟨g0a,g0b,g0c⟩:=hmem 0 (by omega)
  have hk0:c.kid a 0=x:=by unfold Ck.kid;rw [hl0];rfl
  have hex:=hx ((c.noteF a).named a).1 (c.kid a 0) hqn g0b (by rw [en.tree];exact g0c) g0a (by rw [en.node];show isR (c.node (c.kid a 0)).kind;rw [hk0];exact hx0)
  have hmust:=jcF (jae n ((c.noteF a).named a).1 (c.kid a 0)).1 (decide (((c.noteF a).named a).2=(jae n ((c.noteF a).named a).1 (c.kid a 0)).2)) a
  rw [show jaf (n+1) c a=(jae n ((c.noteF a).named a).1 (c.kid a 0)).1.must (decide (((c.noteF a).named a).2=(jae n ((c.noteF a).named a).1 (c.kid a 0)).2)) a from by unfold jaf;simp only;rw [k0];rfl]
  refine jaw Tryz.func216 Tryz.ntmps216 ?_
  (refine S ?_;try exact True.intro)
  (have W:=hk';repeat' (first|refine jaa fun K hK=>?_|refine wkA ?_|(with_reducible refine gR 1 ?_);refine dE 1 [0,1,2,3,4,5,6,7,8,9,10,11] mixed ?_|(refine hK _ _ ?_;clear hK K)|(refine jad (fun hc=>?_) (fun hc=>?_)<;>first | contradiction | (exfalso;omega) | skip)|refine cm (hnm) ?_|refine cm (hex) ?_|refine cm (hmust) ?_|refine wkB ?_|exact True.intro|(clear hK K)));all_goals (try clear W)
  (refine jaN [] ?_;try simp only [go_sem])
 ·have hk':(nth c.tree.nodes a.toNat).kind=12:=k
  have k0:((c.noteF a).node a).kind=12:=k
  obtain ⟨x,y,hl0,hx0,hx1⟩:=sh.two (by omega)
  have hl1:(c.node a).l.length=2:=by rw [hl0];rfl
  have hl':(nth c.tree.nodes a.toNat).l.length=2:=hl1
  obtain ⟨g0a,g0b,g0c⟩:=hmem 0 (by omega)
  have hk0:c.kid a 0=x:=by unfold Ck.kid;rw [hl0];rfl
  obtain ⟨g1a,g1b,g1c⟩:=hmem 1 (by omega)
  have hk1:c.kid a 1=y:=by unfold Ck.kid;rw [hl0];rfl
  have ex1:=jaA n ((c.noteF a).named a).1 (c.kid a 0)
  have hex:=hx ((c.noteF a).named a).1 (c.kid a 0) hqn g0b (by rw [en.tree];exact g0c) g0a (by rw [en.node];show isR (c.node (c.kid a 0)).kind;rw [hk0];exact .inl hx0)
  have hey:=hx (jae n ((c.noteF a).named a).1 (c.kid a 0)).1 (c.kid a 1) (hqn.ev ex1) g1b (by rw [ex1.tree,en.tree];exact g1c) g1a (by rw [ex1.node,en.node];show isR (c.node (c.kid a 1)).kind;rw [hk1];exact .inl hx1)
  have hmust:=jcF (jae n (jae n ((c.noteF a).named a).1 (c.kid a 0)).1 (c.kid a 1)).1 (decide (((c.noteF a).named a).2=4) && decide ((jae n ((c.noteF a).named a).1 (c.kid a 0)).2=1) && decide ((jae n (jae n ((c.noteF a).named a).1 (c.kid a 0)).1 (c.kid a 1)).2=1)) a
  rw [show jaf (n+1) c a=(jae n (jae n ((c.noteF a).named a).1 (c.kid a 0)).1 (c.kid a 1)).1.must (decide (((c.noteF a).named a).2=4) && decide ((jae n ((c.noteF a).named a).1 (c.kid a 0)).2=1) && decide ((jae n (jae n ((c.noteF a).named a).1 (c.kid a 0)).1 (c.kid a 1)).2=1)) a from by unfold jaf;simp only;rw [k0];rfl]
  refine jaw Tryz.func216 Tryz.ntmps216 ?_
  (refine S ?_;try exact True.intro)
  (have W:=hk';repeat' (first|refine jaa fun K hK=>?_|refine wkA ?_|(with_reducible refine gR 1 ?_);refine dE 1 [0,1,2,3,4,5,6,7,8,9,10,11] mixed ?_|(refine hK _ _ ?_;clear hK K)|(refine jad (fun hc=>?_) (fun hc=>?_)<;>first | contradiction | (exfalso;omega) | skip)|refine cm (hnm) ?_|refine cm (hex) ?_|refine cm (hey) ?_|refine cm (hmust) ?_|refine wkB ?_|exact True.intro|(clear hK K)));all_goals (try clear W)
  (refine jaN [] ?_;try simp only [go_sem])
 ·have hk':(nth c.tree.nodes a.toNat).kind=13:=k
  have k0:((c.noteF a).node a).kind=13:=k
  obtain ⟨x,hl0,hx0⟩:=sh.do_ (by omega)
  have hl1:(c.node a).l.length=1:=by rw [hl0];rfl
  have hl':(nth c.tree.nodes a.toNat).l.length=1:=hl1
  obtain ⟨g0a,g0b,g0c⟩:=hmem 0 (by omega)
  have hk0:c.kid a 0=x:=by unfold Ck.kid;rw [hl0];rfl
  have hex:=hx (c.noteF a) (c.kid a 0) hq g0b g0c g0a (by show isR (c.node (c.kid a 0)).kind;rw [hk0];exact .inr (.inr (.inr hx0)))
  rw [show jaf (n+1) c a=(jae n (c.noteF a) (c.kid a 0)).1 from by unfold jaf;simp only;rw [k0];rfl]
  refine jaw Tryz.func216 Tryz.ntmps216 ?_
  (refine S ?_;try exact True.intro)
  (have W:=hk';repeat' (first|refine jaa fun K hK=>?_|refine wkA ?_|(with_reducible refine gR 1 ?_);refine dE 1 [0,1,2,3,4,5,6,7,8,9,10,11] mixed ?_|(refine hK _ _ ?_;clear hK K)|(refine jad (fun hc=>?_) (fun hc=>?_)<;>first | contradiction | (exfalso;omega) | skip)|refine cm (hex) ?_|refine wkB ?_|exact True.intro|(clear hK K)));all_goals (try clear W)
  (refine jaN [] ?_;try simp only [go_sem])
 ·have hk':(nth c.tree.nodes a.toNat).kind=14:=k
  have k0:((c.noteF a).node a).kind=14:=k
  obtain ⟨x,hl0,hx0⟩:=sh.one (by omega)
  have hl1:(c.node a).l.length=1:=by rw [hl0];rfl
  have hl':(nth c.tree.nodes a.toNat).l.length=1:=hl1
  obtain ⟨g0a,g0b,g0c⟩:=hmem 0 (by omega)
  have hk0:c.kid a 0=x:=by unfold Ck.kid;rw [hl0];rfl
  have hex:=hx (c.noteF a) (c.kid a 0) hq g0b g0c g0a (by show isR (c.node (c.kid a 0)).kind;rw [hk0];exact .inl hx0)
  have hmust:=jcF (jae n (c.noteF a) (c.kid a 0)).1 (!decide ((jae n (c.noteF a) (c.kid a 0)).2=4)) a
  rw [show jaf (n+1) c a=(jae n (c.noteF a) (c.kid a 0)).1.must (!decide ((jae n (c.noteF a) (c.kid a 0)).2=4)) a from by unfold jaf;simp only;rw [k0];rfl]
  refine jaw Tryz.func216 Tryz.ntmps216 ?_
  (refine S ?_;try exact True.intro)
  (have W:=hk';repeat' (first|refine jaa fun K hK=>?_|refine wkA ?_|(with_reducible refine gR 1 ?_);refine dE 1 [0,1,2,3,4,5,6,7,8,9,10,11] mixed ?_|(refine hK _ _ ?_;clear hK K)|(refine jad (fun hc=>?_) (fun hc=>?_)<;>first | contradiction | (exfalso;omega) | skip)|refine cm (hex) ?_|refine cm (hmust) ?_|refine wkB ?_|exact True.intro|(clear hK K)));all_goals (try clear W)
  (refine jaN [] ?_;try simp only [go_sem])
 ·have hk':(nth c.tree.nodes a.toNat).kind=17:=k
  have k0:((c.noteF a).node a).kind=17:=k
  have hrc:=hr (c.noteF a) a hq h0 h1 (by omega) k0
  rw [show jaf (n+1) c a=jbD (jae n) (c.noteF a) a from by unfold jaf;simp only;rw [k0];rfl]
  refine jaw Tryz.func216 Tryz.ntmps216 ?_
  (refine S ?_;try exact True.intro)
  (have W:=hk';repeat' (first|refine jaa fun K hK=>?_|refine wkA ?_|(with_reducible refine gR 1 ?_);refine dE 1 [0,1,2,3,4,5,6,7,8,9,10,11] mixed ?_|(refine hK _ _ ?_;clear hK K)|(refine jad (fun hc=>?_) (fun hc=>?_)<;>first | contradiction | (exfalso;omega) | skip)|refine cm (hrc) ?_|refine wkB ?_|exact True.intro|(clear hK K)));all_goals (try clear W)
  (refine jaN [] ?_;try simp only [go_sem])
 ·have hall:1≤(c.node a).l.length∧isE (c.node (c.kid a 0)).kind∧∀ i,i < (c.node a).l.length→1≤i→(c.node (nth (c.node a).l i)).kind=18:=by
   have fin:∀ {x y:Int},(c.node a).l=[x,y]→isE (jan c.tree.nodes x)→jan c.tree.nodes y=18→1≤(c.node a).l.length∧isE (c.node (c.kid a 0)).kind∧∀ i,i < (c.node a).l.length→1≤i→(c.node (nth (c.node a).l i)).kind=18:=fun {x y} e hx hy=>by
    refine ⟨by rw [e];simp,by have:c.kid a 0=x:=(by unfold Ck.kid;rw [e];rfl);rw [this];exact hx,fun i hi h1=>?_⟩
    rw [e] at hi ⊢
    obtain rfl:i=1:=by simp at hi;omega
    exact hy
   rcases k with k | k
   ·obtain ⟨x,y,hxe,hye,hl0⟩:=sh.if_ k
    rcases hl0 with hl0 | ⟨d,hl0,hd⟩
    ·exact fin hl0 hxe hye
    ·refine ⟨by rw [hl0];simp,by have:c.kid a 0=x:=(by unfold Ck.kid;rw [hl0];rfl);rw [this];exact hxe,fun i hi h1=>?_⟩
     rw [hl0] at hi ⊢
     rcases (show i=1∨i=2 by simp at hi;omega) with rfl | rfl
     ·exact hye
     ·exact hd
   ·obtain ⟨x,y,hl0,hxe,hye⟩:=sh.while_ k
    exact fin hl0 hxe hye
  obtain ⟨hl1,hxe,hblk⟩:=hall
  have hl':1≤(nth c.tree.nodes a.toNat).l.length:=hl1
  obtain ⟨g0a,g0b,g0c⟩:=hmem 0 (by omega)
  have hex:=hx (c.noteF a) (c.kid a 0) hq g0b g0c g0a (.inl hxe)
  have eM:Ev c ((jae n (c.noteF a) (c.kid a 0)).1.must (decide ((jae n (c.noteF a) (c.kid a 0)).2=2)) a):=(ev.trans (jaA n _ _)).trans (jbF _ _ _)
  have hM:=h.ev eM
  have hmust:=jcF (jae n (c.noteF a) (c.kid a 0)).1 (decide ((jae n (c.noteF a) (c.kid a 0)).2=2)) a
  rcases k with k | k
  ·have hk':(nth c.tree.nodes a.toNat).kind=15:=k
   have k0:((c.noteF a).node a).kind=15:=k
   rw [show jaf (n+1) c a=jaI (ja0 (jaf n)) ((jae n (c.noteF a) (c.kid a 0)).1.must (decide ((jae n (c.noteF a) (c.kid a 0)).2=2)) a) ((c.node a).l.drop 1) from by unfold jaf;simp only;rw [k0];rfl]
   generalize hY:jaI (ja0 (jaf n)) ((jae n (c.noteF a) (c.kid a 0)).1.must (decide ((jae n (c.noteF a) (c.kid a 0)).2=2)) a) ((c.node a).l.drop 1)=Y
   refine jaw Tryz.func216 Tryz.ntmps216 ?_
   (refine S ?_;try exact True.intro)
   (have W:=hk';repeat' (first|refine jaa fun K hK=>?_|refine wkA ?_|(with_reducible refine gR 1 ?_);refine dE 1 [0,1,2,3,4,5,6,7,8,9,10,11] mixed ?_|(refine hK _ _ ?_;clear hK K)|(refine jad (fun hc=>?_) (fun hc=>?_)<;>first | contradiction | (exfalso;omega) | skip)|refine cm (hex) ?_|refine cm (hmust) ?_|refine wkB ?_|exact True.intro|(clear hK K)));all_goals (try clear W)
   refine jah (S:=Nat×Ck) [(12,1),(46,21)] (fun s=>s.1≤(c.node a).l.length∧1≤s.1∧CkIn s.2∧s.2.tree=c.tree∧jaI (ja0 (jaf n)) s.2 ((c.node a).l.drop s.1)=Y) (fun s=>[(12,rI s.1)]) (fun s=>⟨[0,1,2,3,4,5],jdE s.2++[(6,.var 53 (jao (c.node a)))]⟩) (fun s=>(c.node a).l.length - s.1) (1,(jae n (c.noteF a) (c.kid a 0)).1.must (decide ((jae n (c.noteF a) (c.kid a 0)).2=2)) a) ⟨by (try simp only);omega,Nat.le_refl _,hM,eM.tree,hY⟩ (jaE jgX lle) ?_
   rintro ⟨i,z⟩ ⟨hi,hi1,hz,hzt,hA⟩ Kr hKr
   simp only at hi hi1 hz hzt hA
   have hi':i≤(nth c.tree.nodes a.toNat).l.length:=hi
   (refine S ?_;try exact True.intro)
   by_cases hgo:i < (c.node a).l.length∧z.e=0
   ·obtain ⟨hg1,hg2⟩:=hgo
    have hg1':i < (nth c.tree.nodes a.toNat).l.length:=hg1
    rw [jbz hg1,jaI,if_pos hg2] at hA
    have hm:nth (c.node a).l i∈(c.node a).l:=jaP hg1
    have hb:=hkid _ hm
    have hbc:=hbl z (nth (c.node a).l i) hz hb.1 (by rw [hzt];omega) (by omega) (by
     have:z.node (nth (c.node a).l i)=c.node (nth (c.node a).l i):=by unfold Ck.node;rw [hzt]
     rw [this];exact hblk i hg1 hi1)
    have sz:=(jcN (fun q b hq he=>ja3 n q b hq he) hz (nth (c.node a).l i)).1
    (have W:=hg2;repeat' (first|refine jaa fun K hK=>?_|refine wkA ?_|(refine hK _ _ ?_;clear hK K)|(refine jad (fun hc=>?_) (fun hc=>?_)<;>first | contradiction | (exfalso;omega) | skip)|refine cm (hbc) ?_|refine wkB ?_|exact True.intro|(clear hK K)));all_goals (try clear W)
    refine hKr _ _ (jau (i+1,ja0 (jaf n) z (nth (c.node a).l i)) ⟨by (try simp only);omega,by (try simp only);omega,sz.inv,sz.tree.trans hzt,hA⟩ (by (try simp only);omega) jgX lle)
   ·have hz2:z=Y:=by
     by_cases hg1:i < (c.node a).l.length
     ·rw [jbz hg1,jaI,if_neg fun e=>hgo ⟨hg1,e⟩] at hA
      exact hA
     ·rw [List.drop_eq_nil_of_le (by omega),jaI] at hA
      exact hA
    have hgo':¬(i < (nth c.tree.nodes a.toNat).l.length∧z.e=0):=hgo
    (repeat' (first|refine jaa fun K hK=>?_|refine wkA ?_|(refine hK _ _ ?_;clear hK K)|(refine jad (fun hc=>?_) (fun hc=>?_)<;>first | contradiction | (exfalso;omega) | skip)|refine wkB ?_|exact True.intro|(clear hK K)))
    all_goals first | (exact absurd ⟨by have:=hc.1;omega,hc.2⟩ hgo') | skip
    rw [← hz2]
    (refine jaN [] ?_;try simp only [go_sem])
  ·have hk':(nth c.tree.nodes a.toNat).kind=16:=k
   have k0:((c.noteF a).node a).kind=16:=k
   rw [show jaf (n+1) c a=jaI (ja0 (jaf n)) ((jae n (c.noteF a) (c.kid a 0)).1.must (decide ((jae n (c.noteF a) (c.kid a 0)).2=2)) a) ((c.node a).l.drop 1) from by unfold jaf;simp only;rw [k0];rfl]
   generalize hY:jaI (ja0 (jaf n)) ((jae n (c.noteF a) (c.kid a 0)).1.must (decide ((jae n (c.noteF a) (c.kid a 0)).2=2)) a) ((c.node a).l.drop 1)=Y
   refine jaw Tryz.func216 Tryz.ntmps216 ?_
   (refine S ?_;try exact True.intro)
   (have W:=hk';repeat' (first|refine jaa fun K hK=>?_|refine wkA ?_|(with_reducible refine gR 1 ?_);refine dE 1 [0,1,2,3,4,5,6,7,8,9,10,11] mixed ?_|(refine hK _ _ ?_;clear hK K)|(refine jad (fun hc=>?_) (fun hc=>?_)<;>first | contradiction | (exfalso;omega) | skip)|refine cm (hex) ?_|refine cm (hmust) ?_|refine wkB ?_|exact True.intro|(clear hK K)));all_goals (try clear W)
   refine jah (S:=Nat×Ck) [(12,1),(46,21)] (fun s=>s.1≤(c.node a).l.length∧1≤s.1∧CkIn s.2∧s.2.tree=c.tree∧jaI (ja0 (jaf n)) s.2 ((c.node a).l.drop s.1)=Y) (fun s=>[(12,rI s.1)]) (fun s=>⟨[0,1,2,3,4,5],jdE s.2++[(6,.var 53 (jao (c.node a)))]⟩) (fun s=>(c.node a).l.length - s.1) (1,(jae n (c.noteF a) (c.kid a 0)).1.must (decide ((jae n (c.noteF a) (c.kid a 0)).2=2)) a) ⟨by (try simp only);omega,Nat.le_refl _,hM,eM.tree,hY⟩ (jaE jgX lle) ?_
   rintro ⟨i,z⟩ ⟨hi,hi1,hz,hzt,hA⟩ Kr hKr
   simp only at hi hi1 hz hzt hA
   have hi':i≤(nth c.tree.nodes a.toNat).l.length:=hi
   (refine S ?_;try exact True.intro)
   by_cases hgo:i < (c.node a).l.length∧z.e=0
   ·obtain ⟨hg1,hg2⟩:=hgo
    have hg1':i < (nth c.tree.nodes a.toNat).l.length:=hg1
    rw [jbz hg1,jaI,if_pos hg2] at hA
    have hm:nth (c.node a).l i∈(c.node a).l:=jaP hg1
    have hb:=hkid _ hm
    have hbc:=hbl z (nth (c.node a).l i) hz hb.1 (by rw [hzt];omega) (by omega) (by
     have:z.node (nth (c.node a).l i)=c.node (nth (c.node a).l i):=by unfold Ck.node;rw [hzt]
     rw [this];exact hblk i hg1 hi1)
    have sz:=(jcN (fun q b hq he=>ja3 n q b hq he) hz (nth (c.node a).l i)).1
    (have W:=hg2;repeat' (first|refine jaa fun K hK=>?_|refine wkA ?_|(refine hK _ _ ?_;clear hK K)|(refine jad (fun hc=>?_) (fun hc=>?_)<;>first | contradiction | (exfalso;omega) | skip)|refine cm (hbc) ?_|refine wkB ?_|exact True.intro|(clear hK K)));all_goals (try clear W)
    refine hKr _ _ (jau (i+1,ja0 (jaf n) z (nth (c.node a).l i)) ⟨by (try simp only);omega,by (try simp only);omega,sz.inv,sz.tree.trans hzt,hA⟩ (by (try simp only);omega) jgX lle)
   ·have hz2:z=Y:=by
     by_cases hg1:i < (c.node a).l.length
     ·rw [jbz hg1,jaI,if_neg fun e=>hgo ⟨hg1,e⟩] at hA
      exact hA
     ·rw [List.drop_eq_nil_of_le (by omega),jaI] at hA
      exact hA
    have hgo':¬(i < (nth c.tree.nodes a.toNat).l.length∧z.e=0):=hgo
    (repeat' (first|refine jaa fun K hK=>?_|refine wkA ?_|(refine hK _ _ ?_;clear hK K)|(refine jad (fun hc=>?_) (fun hc=>?_)<;>first | contradiction | (exfalso;omega) | skip)|refine wkB ?_|exact True.intro|(clear hK K)))
    all_goals first | (exact absurd ⟨by have:=hc.1;omega,hc.2⟩ hgo') | skip
    rw [← hz2]
    (refine jaN [] ?_;try simp only [go_sem])
end Go.Proofs.YtfkgcobaheegbaaGreatDoor
namespace Go.Gd
open Go
theorem FLe.vague {F:List AV} {H:Hp} (j k:Nat) {t:TypeId} {cs:List AV} (hj:H.get j=some (.var t cs)):FLe F H F (H.put j (.var t (cs.set k .any))):=fun w tm h1 h2=>by
 obtain ⟨a',b'⟩:=jlq (cs':=cs.set k .any) h1 (j:=j) (t:=t) (cs:=cs) hj (by simp) fun n x x' v hx hx' hv=>by
  rw [List.getElem?_set] at hx'
  by_cases hn:k=n
  ·subst hn
   rw [if_pos rfl] at hx'
   split at hx'
   ·cases hx';exact .any _
   ·cases hx'
  ·rw [if_neg hn] at hx'
   rw [hx] at hx';cases hx';exact hv
 exact ⟨w,rfl,a',h2,b'.toB⟩
theorem jkS {P:Program} {id:Nat} {l:List Oper} {b:Bool} {Q:Exit→List AV→Hp→Prop} {F:List AV} {H:Hp} {q:Prop} (j k:Nat) {t:TypeId} {cs:List AV} {i m sz n:Nat} (h:q) (hj:H.get j=some (.var t cs):=by rfl) (hc:cs[k]?=some (.rs i m sz n):=by rfl) (e:AWP P (.region id l.toArray b) Q F (H.put j (.var t (cs.set k .any)))=q:=by first | (simp only [go_sem];rfl) | rfl):AWP P (.region id l.toArray b) Q F H:=jaU (FLe.vague j k hj) (e ▸ h)
end Go.Gd
namespace Go.Proofs.YtfkgcobaheegbaaGreatDoor
open Go Go.Gd
theorem jeu:∀ n,jhM n
 | 0=>fun c a h h0 h1 hn=>by omega
 | n+1=>juX n (jsm n (jeu n) (juW n (jeu n)))
theorem jle:∀ n,jpr n
 | 0=>fun c a h he h0 h1 hn=>by omega
 | n+1=>jld n (jeu n) (fun c a h he h0 h1 hn hk=>jx0 n (jeu n) c a h he h0 h1 hn hk) (fun c a h h0 h1 hn hk=>joO n (jeu n) c a h h0 h1 hn hk) (jny n (jle n))
def jhw (c:Ck):List AV:=[jal jao 5 c.tree.nodes,jal jbe 5 c.tree.fns,.rs 1 c.types.length 1 c.types.length,.rs 2 c.slots.length 1 c.slots.length,.rs 3 c.fns.length 1 c.fns.length,.rs 4 c.size_.length 1 c.size_.length,rI c.fn,.any,rI c.size,rI c.e,rI c.at_]
def jfG (c:Ck):List (Nat×Row):=[(0,.var 172 (jhw c)),(1,.vec 3 1 (c.types.map eI)),(2,.vec 3 1 (c.slots.map eI)),(3,.vec 3 1 (c.fns.map eI)),(4,.vec 3 1 (c.size_.map eI))]
attribute [go_sem] jfG jhw
structure CkIn0 (c:Ck):Prop where
 tree:TreeOk c.tree
 types:c.types.length=c.tree.nodes.length
 slots:c.slots.length=c.tree.nodes.length
 fns:c.fns.length=c.tree.nodes.length
def je4 (c:Ck) (v:GVar):Ck:={ c with vars:=c.vars++[v],more:=c.more.drop 1,size:=c.size+1 }
attribute [go_sem] je4
theorem jj9 {c:Ck} (h:CkIn c) (v:GVar) (hs:c.size≤20):CkIn (je4 c v):=⟨h.tree,h.types,h.slots,h.fns,h.size_,h.flo,h.fhi,by
 have:=h.vars
 show ((c.vars++[v]).length:Int)≤c.size+1
 simp
 omega,by show c.size+1≤25;omega,fun _=>by show c.size+1≤24;omega⟩
set_option maxHeartbeats 4000000 in
set_option maxRecDepth 10000 in
theorem jmx (c:Ck) (k:Nat) (h:CkIn0 c) (hk:k < c.tree.fns.length) (hsz:c.size_.length < 6):ACalls Tryz.prog 97 [pR,rI k] (jfG c) (fun v l=>v=.tup []∧l=jfG (jaF c k)):=by
 have hff:=h.tree.fns
 have hfn:=h.tree.fn _ (jaP hk)
 have hp3:=hfn.2
 have hbk:=h.tree.body _ (jaP hk)
 have hbm:=h.tree.chain.mem (nth c.tree.fns k).body (List.mem_map.2 ⟨_,jaP hk,rfl⟩)
 refine jaw Tryz.func97 Tryz.ntmps97 ?_
 (refine S ?_;try exact True.intro)
 (repeat' (first|refine jaa fun K hK=>?_|refine wkA ?_|(refine hK _ _ ?_;clear hK K)|(refine jad (fun hc=>?_) (fun hc=>?_)<;>first | contradiction | (exfalso;omega) | skip)|refine al 6 ?_|refine wkB ?_|exact True.intro|(clear hK K)))
 have hKo:=hK;clear hK
 refine jaU (FLe.nilC 5 0 7 63 3 rfl (by decide) rfl rfl) ?_
 (refine S ?_;try exact True.intro)
 generalize hc0:({ c with fn:=(k:Int),vars:=[],more:=[],size:=0 }:Ck)=c0
 have hi0:CkIn c0:=by
  subst hc0
  exact ⟨h.tree,h.types,h.slots,h.fns,by show c.size_.length≤6;omega,by show (0:Int)≤k;omega,by show (k:Int) < (c.tree.fns.length:Int);omega,by show ((0:Nat):Int)≤0;omega,by show (0:Int)≤25;omega,fun _=>by show (0:Int)≤24;omega⟩
 have hc1:jaF c k=(fun c2:Ck=>{ c2 with size_:=c2.size_++[c2.size],vars:=[],more:=[] }) (if (jaQ (nth c.tree.fns k).body c0 (nth c.tree.fns k).params 0).e=0 then ja0 (jaf c.tree.nodes.length) (jaQ (nth c.tree.fns k).body c0 (nth c.tree.fns k).params 0) (nth c.tree.fns k).body else jaQ (nth c.tree.fns k).body c0 (nth c.tree.fns k).params 0):=by subst hc0;rfl
 refine jaU (FLe.perm (jdE c0++[(6,.var 100 (jbe (nth c.tree.fns k)))]) (fun i=>by subst hc0;simp only [go_sem,jas];(repeat' split)<;>first | rfl | omega)) ?_
 refine jah (S:=Nat×Ck) [(5,1),(25,50)] (fun s=>s.1≤(nth c.tree.fns k).params.length∧CkIn s.2∧s.2.size=s.1∧s.2.vars.length=s.1∧s.2.tree=c.tree∧s.2.size_=c.size_∧jaQ (nth c.tree.fns k).body s.2 ((nth c.tree.fns k).params.drop s.1) s.1=jaQ (nth c.tree.fns k).body c0 (nth c.tree.fns k).params 0) (fun s=>[(5,rI s.1)]) (fun s=>⟨[0,1,2,3,4],jdE s.2++[(6,.var 100 (jbe (nth c.tree.fns k)))]⟩) (fun s=>(nth c.tree.fns k).params.length - s.1) (0,c0) ⟨by (try simp only);omega,hi0,by subst hc0;rfl,by subst hc0;rfl,by subst hc0;rfl,by subst hc0;rfl,rfl⟩ (jaE rfl lle) ?_
 rintro ⟨i,q⟩ ⟨hi,hq,hqs,hqv,hqt,hqz,hA⟩ Kr hKr
 simp only at hi hq hqs hqv hqt hqz hA
 (refine S ?_;try exact True.intro)
 by_cases hlt:i < (nth c.tree.fns k).params.length
 ·rw [jbz hlt,jaQ] at hA
  have hfind:=jmw q (nth (nth c.tree.fns k).params i).name hq
  have hfa:=jdv q 41 (nth c.tree.fns k).body
  by_cases hf:0≤q.find (nth (nth c.tree.fns k).params i).name
  ·rw [if_pos hf] at hA
   have ef:=jbZ q (e:=41) (by decide) (nth c.tree.fns k).body
   have hv1:=ef.vars
   have hz1:=ef.size
   have hi1:=hq.ev ef
   have hvl:(q.fails 41 (nth c.tree.fns k).body).vars.length=i:=by rw [hv1,hqv]
   (repeat' (first|refine jaa fun K hK=>?_|refine wkA ?_|(with_reducible refine gR 9 ?_);refine dE 9 [0,1,2,3,4,5,6,7,8,9,10,11,12,13,14,15,16,17,18,19,20,21,22,23] mixed ?_|(refine hK _ _ ?_;clear hK K)|(refine jad (fun hc=>?_) (fun hc=>?_)<;>first | contradiction | (exfalso;omega) | skip)|refine cm (hfind) ?_|refine cm (hfa) ?_|refine jgi (q.fails 41 (nth c.tree.fns k).body).vars (q.fails 41 (nth c.tree.fns k).body).more [⟨(nth (nth c.tree.fns k).params i).name,(nth (nth c.tree.fns k).params i).ty,(i:Int)⟩] ?_|refine wkB ?_|exact True.intro|(clear hK K)))
   refine hKr _ _ (jau (i+1,je4 (q.fails 41 (nth c.tree.fns k).body) ⟨(nth (nth c.tree.fns k).params i).name,(nth (nth c.tree.fns k).params i).ty,(i:Int)⟩) ⟨by (try simp only);omega,jj9 hi1 _ (by omega),by show (q.fails 41 (nth c.tree.fns k).body).size+1=_;omega,by show ((q.fails 41 (nth c.tree.fns k).body).vars++[_]).length=i+1;rw [List.length_append,hvl];rfl,ef.tree.trans hqt,ef.size_.trans hqz,hA⟩ (by (try simp only);omega) jgX lle)
  ·rw [if_neg hf] at hA
   (repeat' (first|refine jaa fun K hK=>?_|refine wkA ?_|(with_reducible refine gR 9 ?_);refine dE 9 [0,1,2,3,4,5,6,7,8,9,10,11,12,13,14,15,16,17,18,19,20,21,22,23] mixed ?_|(refine hK _ _ ?_;clear hK K)|(refine jad (fun hc=>?_) (fun hc=>?_)<;>first | contradiction | (exfalso;omega) | skip)|refine cm (hfind) ?_|refine jgi q.vars q.more [⟨(nth (nth c.tree.fns k).params i).name,(nth (nth c.tree.fns k).params i).ty,(i:Int)⟩] ?_|refine wkB ?_|exact True.intro|(clear hK K)))
   refine hKr _ _ (jau (i+1,je4 q ⟨(nth (nth c.tree.fns k).params i).name,(nth (nth c.tree.fns k).params i).ty,(i:Int)⟩) ⟨by (try simp only);omega,jj9 hq _ (by omega),by show q.size+1=_;omega,by show (q.vars++[_]).length=i+1;rw [List.length_append,hqv];rfl,hqt,hqz,hA⟩ (by (try simp only);omega) jgX lle)
 ·have hz:q=jaQ (nth c.tree.fns k).body c0 (nth c.tree.fns k).params 0:=by
   rw [List.drop_eq_nil_of_le (by omega)] at hA
   exact hA
  rw [← hz] at hc1
  by_cases he:q.e=0
  ·rw [if_pos he] at hc1
   have sb:=(jcN (fun q b hq he=>ja3 c.tree.nodes.length q b hq he) hq (nth c.tree.fns k).body).1
   have hbc:=jny c.tree.nodes.length (jle _) q (nth c.tree.fns k).body hq hbm.1 (by rw [hqt];omega) (by omega) (by unfold Ck.node;rw [hqt];exact hbk)
   have hzl:(ja0 (jaf c.tree.nodes.length) q (nth c.tree.fns k).body).size_.length < 6:=by rw [sb.size_,hqz];exact hsz
   (have W:=he;repeat' (first|refine jkS (id:=13) 0 7 ?_|refine jaa fun K hK=>?_|refine wkA ?_|(with_reducible refine gR 13 ?_);refine dE 13 [0,1,2,3,4,5,6,7,8,9,10,11,12,13,14,15] mixed ?_|(refine hK _ _ ?_;clear hK K)|(refine jad (fun hc=>?_) (fun hc=>?_)<;>first | contradiction | (exfalso;omega) | skip)|(refine hKo _ _ ?_)|refine cm (hbc) ?_|refine wkB ?_|exact True.intro|(clear hK K)));all_goals (try clear W)
   rw [hc1]
   (refine jaN [] ?_;try simp only [go_sem])
  ·rw [if_neg he] at hc1
   have hzl:q.size_.length < 6:=by rw [hqz];exact hsz
   (have W:=he;repeat' (first|refine jkS (id:=13) 0 7 ?_|refine jaa fun K hK=>?_|refine wkA ?_|(with_reducible refine gR 13 ?_);refine dE 13 [0,1,2,3,4,5,6,7,8,9,10,11,12,13,14,15] mixed ?_|(refine hK _ _ ?_;clear hK K)|(refine jad (fun hc=>?_) (fun hc=>?_)<;>first | contradiction | (exfalso;omega) | skip)|(refine hKo _ _ ?_)|refine wkB ?_|exact True.intro|(clear hK K)));all_goals (try clear W)
   rw [hc1]
   (refine jaN [] ?_;try simp only [go_sem])
set_option maxHeartbeats 1000000 in
set_option maxRecDepth 10000 in
theorem jk9 (c:Ck) (e a:Int):ACalls Tryz.prog 150 [pR,rI e,rI a] (jfG c) (fun v l=>v=.tup []∧l=jfG (c.fails e a)):=by
 refine jaw Tryz.func150 Tryz.ntmps150 ?_
 (refine S ?_;try exact True.intro)
 (repeat' (first|refine jaa fun K hK=>?_|refine wkA ?_|(refine hK _ _ ?_;clear hK K)|(refine jad (fun hc=>?_) (fun hc=>?_)<;>first | contradiction | (exfalso;omega) | skip)|refine wkB ?_|exact True.intro|(clear hK K)))
 ·(refine jbM [] ?_ ?_<;>(try simp only [go_sem]))
  simp only [Ck.fails,if_pos hc,jfG,jhw]
 ·(refine jbM [] ?_ ?_<;>(try simp only [go_sem]))
  simp only [Ck.fails,if_neg hc,jfG,jhw]
theorem jj0 (x:GFunc):∀ (l:List GFunc) (c:Ck),Ev c (jdl x c l)
 | [],c=>by unfold jdl;exact .refl c
 | f::l,c=>by
  unfold jdl
  refine Ev.trans ?_ (jj0 x l _)
  split
  ·exact jbZ c (by decide) _
  ·exact .refl c
theorem jhZ (fns:List GFunc):∀ (n:Nat) (c:Ck) (m:Bool) (i:Nat),Ev c (jcS fns c m i n).1
 | 0,c,m,i=>by unfold jcS;exact .refl c
 | n+1,c,m,i=>by
  unfold jcS
  exact (jj0 _ _ _).trans (jhZ fns n _ _ _)
theorem jnn (c:Ck):Ev c (jcp c):=by
 unfold jcp
 simp only
 split
 ·exact jhZ _ _ _ _ _
 ·exact (jhZ _ _ _ _ _).trans (jbZ _ (by decide) _)
set_option maxHeartbeats 4000000 in
set_option maxRecDepth 10000 in
theorem jsj (c:Ck) (h:c.tree.fns.length≤6):ACalls Tryz.prog 96 [pR] (jfG c) (fun v l=>v=.tup []∧l=jfG (jcp c)):=by
 refine jaw Tryz.func96 Tryz.ntmps96 ?_
 (refine S ?_;try exact True.intro)
 (repeat' (first|refine jaa fun K hK=>?_|refine wkA ?_|(refine hK _ _ ?_;clear hK K)|(refine jad (fun hc=>?_) (fun hc=>?_)<;>first | contradiction | (exfalso;omega) | skip)|refine wkB ?_|exact True.intro|(clear hK K)))
 have hKo:=hK;clear hK
 refine jah (S:=Nat×Ck×Bool) [(3,3),(12,55)] (fun s=>s.1≤c.tree.fns.length∧jcS c.tree.fns s.2.1 s.2.2 s.1 (c.tree.fns.length - s.1)=jcS c.tree.fns c false 0 c.tree.fns.length∧s.2.1.tree=c.tree) (fun s=>[(4,rI s.1),(3,rB s.2.2)]) (fun s=>⟨[0,1,2,3,4],jfG s.2.1⟩) (fun s=>c.tree.fns.length - s.1) (0,c,false) ⟨by (try simp only);omega,rfl,rfl⟩ (jaE jgX lle) ?_
 rintro ⟨i,q,m⟩ ⟨hi,hA,hqt⟩ Kr hKr
 simp only at hi hA hqt
 (refine S ?_;try exact True.intro)
 by_cases hlt:i < c.tree.fns.length
 ·rw [show c.tree.fns.length - i=(c.tree.fns.length - (i+1))+1 by omega,jcS] at hA
  (repeat' (first|refine jaa fun K hK=>?_|refine wkA ?_|(refine hK _ _ ?_;clear hK K)|(refine jad (fun hc=>?_) (fun hc=>?_)<;>first | contradiction | (exfalso;omega) | skip)|refine wkB ?_|exact True.intro|(clear hK K)))
  have hKi:=hK;clear hK
  have hKb:=hK;clear hK
  refine jah (S:=Nat×Ck) [(5,1),(18,23)] (fun s=>s.1≤i∧jdl (nth c.tree.fns i) s.2 ((c.tree.fns.take i).drop s.1)=jdl (nth c.tree.fns i) q (c.tree.fns.take i)) (fun s=>[(5,rI s.1)]) (fun s=>⟨[0,1,2,3,4],jfG s.2⟩) (fun s=>i - s.1) (0,q) ⟨by (try simp only);omega,rfl⟩ (jaE jgX lle) ?_
  rintro ⟨k,z⟩ ⟨hk,hB⟩ Kj hKj
  simp only at hk hB
  (refine S ?_;try exact True.intro)
  by_cases hkl:k < i
  ·have hkt:k < (c.tree.fns.take i).length:=by rw [List.length_take];omega
   have hnt:nth (c.tree.fns.take i) k=nth c.tree.fns k:=by simp [nth,List.getD_eq_getElem?_getD,List.getElem?_take,hkl]
   rw [jbz hkt,hnt,jdl] at hB
   have hfa:=jk9 z 41 (nth c.tree.fns i).body
   (repeat' (first|refine jaa fun K hK=>?_|refine wkA ?_|(with_reducible refine gR 8 ?_);refine dE 8 [0,1,2,3,4,5,6,7,8,9,10] mixed ?_|(refine hK _ _ ?_;clear hK K)|(refine jad (fun hc=>?_) (fun hc=>?_)<;>first | contradiction | (exfalso;omega) | skip)|refine cm (hfa) ?_|refine wkB ?_|exact True.intro|(clear hK K)))
   ·rw [if_pos hc] at hB
    refine hKj _ _ (jau (k+1,z.fails 41 (nth c.tree.fns i).body) ⟨by (try simp only);omega,hB⟩ (by (try simp only);omega) jgX lle)
   ·rw [if_neg hc] at hB
    refine hKj _ _ (jau (k+1,z) ⟨by (try simp only);omega,hB⟩ (by (try simp only);omega) jgX lle)
  ·rw [List.drop_eq_nil_of_le (by rw [List.length_take];omega),jdl] at hB
   (repeat' (first|refine jaa fun K hK=>?_|refine wkA ?_|(refine hK _ _ ?_;clear hK K)|(refine jad (fun hc=>?_) (fun hc=>?_)<;>first | contradiction | (exfalso;omega) | skip)|(refine hKi _ _ ?_)|(refine hKb _ _ ?_)|refine wkB ?_|exact True.intro|(clear hK K)))
   refine hKr _ _ (jau (i+1,z,m || jjn (nth c.tree.fns i)) ⟨by (try simp only);omega,by rw [← hB] at hA;exact hA,by rw [hB];exact (jj0 _ _ _).tree.trans hqt⟩ (by (try simp only);omega) jgX (by simp only [go_sem,LLe,Nat.reduceAdd,AV.raw.injEq,Value.int.injEq,Value.slice.injEq,Value.pointer.injEq,AV.rs.injEq,jjn];try omega))
 ·rw [show c.tree.fns.length - i=0 by omega,jcS] at hA
  have hz:jcp c=if m=true then q else q.fails 44 0:=by unfold jcp;rw [← hA]
  have hfa:=jk9 q 44 0
  cases m
  ·rw [if_neg (by decide)] at hz
   (repeat' (first|refine jaa fun K hK=>?_|refine wkA ?_|(refine hK _ _ ?_;clear hK K)|(refine jad (fun hc=>?_) (fun hc=>?_)<;>first | contradiction | (exfalso;omega) | skip)|(refine hKo _ _ ?_)|refine cm (hfa) ?_|refine wkB ?_|exact True.intro|(clear hK K)))
   rw [hz]
   (refine jbM [] ?_ ?_<;>(try simp only [go_sem]))
  ·rw [if_pos rfl] at hz
   (repeat' (first|refine jaa fun K hK=>?_|refine wkA ?_|(refine hK _ _ ?_;clear hK K)|(refine jad (fun hc=>?_) (fun hc=>?_)<;>first | contradiction | (exfalso;omega) | skip)|(refine hKo _ _ ?_)|refine wkB ?_|exact True.intro|(clear hK K)))
   rw [hz]
   (refine jbM [] ?_ ?_<;>(try simp only [go_sem]))
theorem jfN (body:Int):∀ (ps:List GParam) (c:Ck) (i:Int),CkIn c→c.size+ps.length≤20→CkIn (jaQ body c ps i)∧(jaQ body c ps i).tree=c.tree∧(jaQ body c ps i).size_=c.size_
 | [],c,i,h,hs=>by unfold jaQ;exact ⟨h,rfl,rfl⟩
 | p::ps,c,i,h,hs=>by
  unfold jaQ
  simp only [List.length_cons] at hs
  have fin:∀ c1:Ck,Ev c c1→CkIn (jaQ body (je4 c1 ⟨p.name,p.ty,i⟩) ps (i+1))∧(jaQ body (je4 c1 ⟨p.name,p.ty,i⟩) ps (i+1)).tree=c.tree∧(jaQ body (je4 c1 ⟨p.name,p.ty,i⟩) ps (i+1)).size_=c.size_:=fun c1 s=>by
   have h1:=h.ev s
   have hz:=s.size
   obtain ⟨a,b,d⟩:=jfN body ps (je4 c1 ⟨p.name,p.ty,i⟩) (i+1) (jj9 h1 _ (by omega)) (by show c1.size+1+_≤20;omega)
   exact ⟨a,b.trans s.tree,d.trans s.size_⟩
  simp only
  split
  ·exact fin _ (jbZ c (by decide) body)
  ·exact fin _ (.refl c)
theorem jfm {c:Ck} (h:CkIn0 c) {k:Nat} (hk:k < c.tree.fns.length) (hsz:c.size_.length < 6):CkIn0 (jaF c k)∧(jaF c k).tree=c.tree∧(jaF c k).size_.length=c.size_.length+1:=by
 have hp3:=(h.tree.fn _ (jaP hk)).2
 have hi0:CkIn { c with fn:=(k:Int),vars:=[],more:=[],size:=0 }:=⟨h.tree,h.types,h.slots,h.fns,by show c.size_.length≤6;omega,by show (0:Int)≤k;omega,by show (k:Int) < (c.tree.fns.length:Int);omega,by show ((0:Nat):Int)≤0;omega,by show (0:Int)≤25;omega,fun _=>by show (0:Int)≤24;omega⟩
 obtain ⟨a,b,d⟩:=jfN (nth c.tree.fns k).body (nth c.tree.fns k).params _ 0 hi0 (by show (0:Int)+_≤20;omega)
 unfold jaF
 simp only
 split
 ·have s:=(jcN (fun q b hq he=>ja3 c.tree.nodes.length q b hq he) a (nth c.tree.fns k).body).1
  have hi:=s.inv
  refine ⟨⟨hi.tree,hi.types,hi.slots,hi.fns⟩,s.tree.trans b,?_⟩
  show ((ja0 (jaf c.tree.nodes.length) _ _).size_++[_]).length=_
  rw [List.length_append,s.size_,d];rfl
 ·refine ⟨⟨a.tree,a.types,a.slots,a.fns⟩,b,?_⟩
  show ((jaQ _ _ _ _).size_++[_]).length=_
  rw [List.length_append,d];rfl
def ckN (t:GTree) (n:Nat):Ck:=⟨t,(t.nodes.take n).map fun _=>0,(t.nodes.take n).map fun _=>-1,(t.nodes.take n).map fun _=>0,[],0,[],[],0,0,0⟩
theorem juo (t:GTree) {n:Nat} (h:t.nodes.length≤n):ckN t n=ck0 t:=by simp [ckN,ck0,List.take_of_length_le h]
theorem jrY (t:GTree) {n:Nat} (h:n < t.nodes.length):ckN t (n+1)={ ckN t n with types:=(ckN t n).types++[0],slots:=(ckN t n).slots++[-1],fns:=(ckN t n).fns++[0] }:=by
 simp [ckN,jgc h]
theorem jup (t:GTree) {n:Nat} (h:n≤t.nodes.length):(ckN t n).types.length=n∧(ckN t n).slots.length=n∧(ckN t n).fns.length=n:=by
 simp [ckN];omega
@[go_sem] theorem jwy (t:GTree) (l:List AV):jco t++l=jal jao 5 t.nodes::jal jbe 5 t.fns::l:=rfl
set_option maxHeartbeats 4000000 in
set_option maxRecDepth 10000 in
theorem jxW (t:GTree) (h:TreeOk t):PCall Tryz.prog 54 [.agg (jco t)] (.tup [.agg (jam (ja4 t).1),rI (ja4 t).2.1,rI (ja4 t).2.2]):=by
 have hf:=h.fns
 have hm:=h.many
 refine jbA Tryz.func54 Tryz.ntmps54 ?_
 (repeat' (first|refine jaa fun K hK=>?_|refine wkA ?_|(refine hK _ _ ?_;clear hK K)|(refine jad (fun hc=>?_) (fun hc=>?_)<;>first | contradiction | (exfalso;omega) | skip)|refine bx 10 ?_|refine al 11 ?_|refine bx 0 ?_|refine wkB ?_|exact True.intro|(clear hK K)))
 have hKo:=hK;clear hK
 refine jaU (FLe.nilC 1 0 2 3 1 rfl (by decide) rfl rfl) ?_
 (refine S ?_;try exact True.intro)
 refine jaU (FLe.nilC 2 0 3 3 1 rfl (by decide) rfl rfl) ?_
 (refine S ?_;try exact True.intro)
 refine jaU (FLe.nilC 3 0 4 3 1 rfl (by decide) rfl rfl) ?_
 (refine S ?_;try exact True.intro)
 refine jaU (FLe.nilC 4 0 5 3 1 rfl (by decide) rfl rfl) ?_
 (refine S ?_;try exact True.intro)
 refine jaU (FLe.vague 0 7 rfl) ?_
 (refine S ?_;try exact True.intro)
 refine jaU (FLe.perm (jfG (ckN t 0)++[(10,.var 27 (jco t)),(11,.var 29 [.raw (.slice none 0 0),.raw (.slice none 0 0),.raw (.slice none 0 0),.raw (.slice none 0 0),.raw (.slice none 0 0),.raw (.slice none 0 0)])]) (fun i=>by simp only [go_sem,jas,ckN];(repeat' split)<;>first | rfl | omega)) ?_
 refine jah (S:=Nat) [(6,1),(12,40)] (fun k=>k≤t.nodes.length) (fun k=>[(6,rI k)]) (fun k=>⟨[],jfG (ckN t k)++[(10,.var 27 (jco t)),(11,.var 29 [.raw (.slice none 0 0),.raw (.slice none 0 0),.raw (.slice none 0 0),.raw (.slice none 0 0),.raw (.slice none 0 0),.raw (.slice none 0 0)])]⟩) (fun k=>t.nodes.length - k) 0 (Nat.zero_le _) (jaE rfl lle) ?_
 rintro k hk Kr hKr
 obtain ⟨l1,l2,l3⟩:=jup t hk
 (refine S ?_;try exact True.intro)
 by_cases hlt:k < t.nodes.length
 ·(repeat' (first|refine jaa fun K hK=>?_|refine wkA ?_|(refine hK _ _ ?_;clear hK K)|(refine jad (fun hc=>?_) (fun hc=>?_)<;>first | contradiction | (exfalso;omega) | skip)|refine wkB ?_|exact True.intro|(clear hK K)))
  refine hKr _ _ (jau (k+1) (by omega) (by omega) (by rw [jrY t hlt];exact jgX) lle)
 ·have hall:=juo t (n:=k) (by omega)
  rw [hall] at *
  have hh:=jsj (ck0 t) hf
  (repeat' (first|refine jaa fun K hK=>?_|refine wkA ?_|(refine hK _ _ ?_;clear hK K)|(refine jad (fun hc=>?_) (fun hc=>?_)<;>first | contradiction | (exfalso;omega) | skip)|(refine hKo _ _ ?_)|refine cm (hh) ?_|refine wkB ?_|exact True.intro|(clear hK K)))
  have hKo2:=hK;clear hK
  have eh:=jnn (ck0 t)
  have hi0:CkIn0 (jcp (ck0 t)):=⟨by rw [eh.tree];exact h,by rw [eh.types,eh.tree];simp [ck0],by rw [eh.slots,eh.tree];simp [ck0],by rw [eh.fns,eh.tree];simp [ck0]⟩
  refine jah (S:=Nat×Ck) [(7,1),(54,17)] (fun s=>s.1≤t.fns.length∧CkIn0 s.2∧s.2.tree=t∧s.2.size_.length=s.1∧jaz s.2 s.1 (t.fns.length - s.1)=jcQ t) (fun s=>[(7,rI s.1)]) (fun s=>⟨[],jfG s.2++[(10,.var 27 (jco t)),(11,.var 29 [.raw (.slice none 0 0),.raw (.slice none 0 0),.raw (.slice none 0 0),.raw (.slice none 0 0),.raw (.slice none 0 0),.raw (.slice none 0 0)])]⟩) (fun s=>t.fns.length - s.1) (0,jcp (ck0 t)) ⟨Nat.zero_le _,hi0,eh.tree,by rw [eh.size_];rfl,rfl⟩ (jaE jgX lle) ?_
  rintro ⟨i,q⟩ ⟨hi,hq,hqt,hqz,hA⟩ Kr2 hKr2
  simp only at hi hq hqt hqz hA
  (refine S ?_;try exact True.intro)
  by_cases hgo:i < t.fns.length∧q.e=0
  ·obtain ⟨hg1,hg2⟩:=hgo
   rw [show t.fns.length - i=(t.fns.length - (i+1))+1 by omega,jaz,if_pos hg2] at hA
   have hkf:i < q.tree.fns.length:=by rw [hqt];exact hg1
   have hfc:=jmx q i hq hkf (by omega)
   obtain ⟨f1,f2,f3⟩:=jfm hq hkf (by omega)
   (have W:=hg2;repeat' (first|refine jaa fun K hK=>?_|refine wkA ?_|(refine hK _ _ ?_;clear hK K)|(refine jad (fun hc=>?_) (fun hc=>?_)<;>first | contradiction | (exfalso;omega) | skip)|refine cm (hfc) ?_|refine wkB ?_|exact True.intro|(clear hK K)));all_goals (try clear W)
   refine hKr2 _ _ (jau (i+1,jaF q i) ⟨by (try simp only);omega,f1,f2.trans hqt,by (try simp only);omega,hA⟩ (by (try simp only);omega) jgX lle)
  ·have hz:q=jcQ t:=by
    rw [← hA]
    by_cases hg1:i < t.fns.length
    ·rw [show t.fns.length - i=(t.fns.length - (i+1))+1 by omega,jaz,if_neg fun e=>hgo ⟨hg1,e⟩]
    ·rw [show t.fns.length - i=0 by omega,jaz]
   by_cases he:q.e=0
   ·have hr:ja4 t=(q.prog,0,0):=by unfold ja4;rw [← hz,if_neg (fun h=>h he)]
    have hlen:¬ i < t.fns.length:=fun h=>hgo ⟨h,he⟩
    (have W:=he;repeat' (first|refine jaa fun K hK=>?_|refine wkA ?_|(refine hK _ _ ?_;clear hK K)|(refine jad (fun hc=>?_) (fun hc=>?_)<;>first | contradiction | (exfalso;omega) | skip)|(refine hKo2 _ _ ?_)|refine wkB ?_|exact True.intro|(clear hK K)));all_goals (try clear W)
    rw [hr]
    refine jlF [.cell 2 29,.tmp 3,.tmp 4] ?_
    refine VToL.tup (ds:=[.agg (jam q.prog),rI 0,rI 0]) ?_
    refine And.intro (VToL.agg (ds:=jam q.prog) ?_) (And.intro (.same _ rfl) (And.intro (.same _ rfl) trivial))
    simp only [jam,Ck.prog]
    exact vtl
   ·have hr:ja4 t=(jdW,q.at_,q.e):=by unfold ja4;rw [← hz,if_pos he]
    (have W:=he;repeat' (first|refine jaa fun K hK=>?_|refine wkA ?_|(with_reducible refine gR 14 ?_);refine dA 14 [11] [0,1,2,3,4,5,6,7,8,9,10,11] mixed ?_|(refine hK _ _ ?_;clear hK K)|(refine jad (fun hc=>?_) (fun hc=>?_)<;>first | contradiction | (exfalso;omega) | skip)|(refine hKo2 _ _ ?_)|refine wkB ?_|exact True.intro|(clear hK K)));all_goals (try clear W)
    rw [hr]
    refine jlF [.cell 2 29,.tmp 3,.tmp 4] ?_
    refine VToL.tup (ds:=[.agg (jam jdW),rI _,rI _]) ?_
    refine And.intro (VToL.agg (ds:=jam jdW) ?_) (And.intro (.same _ rfl) (And.intro (.same _ rfl) trivial))
    simp only [jam,jdW]
    exact vtl
end Go.Proofs.YtfkgcobaheegbaaGreatDoor

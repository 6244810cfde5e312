/- Lemmas. No conditions. -/
import Derived.Test.YtfkgcobaheegbaaGreatDoorCkF
set_option linter.all false
set_option maxHeartbeats 8000000
set_option maxRecDepth 10000
namespace Go.Proofs.YtfkgcobaheegbaaGreatDoor
open Go Go.Gd Tryz
attribute [go_sem] As List.length_drop
theorem MA(n:Nat)(hx:th n)(c:Ck)(a:Int)(h:bv c)(he:c.e=0)(h0:0<=a)(h1:a<c.aa.nodes.length)(hn:a.toNat<=n)(hk:(c.node a).kind=10):aj prog 250 [pR,rI a] (fk c) (fun v l=>v=.bg []/\l=fk (oj (ar n) c a)):=by
 obtain⟨sh,hkid⟩:=uR h h0 h1;obtain⟨x,hl,hxe⟩:=sh.right jB;have hl':(nth c.aa.nodes a.toNat).l.length=1:=by
  have:(c.node a).l.length=1:=by rw[hl];rfl
  exact this
 have hkx:c.aw a 0=x:=by unfold Ck.aw;rw[hl];rfl
 have hm:=hkid x (by rw[hl];simp);have hex:=hx c (c.aw a 0) h jB jB jB (by rw[hkx];exact hxe);have hmust:aj prog 253 _ _ (fun v l=>v=.bg []/\l=fk (gg (ar n) c a)):=nW (ar n c (c.aw a 0)).1 (!decide ((ar n c (c.aw a 0)).2=0)) a;have eA:=yC (dp n) c a;have eB:=BC (dp n) c a;have eC:=vN (dp n) c a;have hA:=h.ev eA;have hC:=h.ev eC;have hfind:=B0 (gg (ar n) c a) (c.node a).name hA;have hfa:=rT (gg (ar n) c a) 41 a;have hfb:=rT (iB (ar n) c a) 4 a;have hsl:=hC.slots;have hcz:=hC.size;have hcv:=hC.vars;have hcc:=eC.size;have hc24:=h.room he;rw[eC.aa]at hsl;rw[sD];refine aU func250 ntmps250 ?_
 (refine S ?_;try exact jI)
 by_cases c1:0<=(gg (ar n) c a).find (c.node a).name
 ·have e1:iB (ar n) c a=(gg (ar n) c a).aE 41 a:=if_pos c1
  rw[<-e1]at hfa;by_cases c2:24<=(iB (ar n) c a).size
  ·have e2:dq (ar n) c a=(iB (ar n) c a).aE 4 a:=if_pos c2
   rw[<-e2]at hfb
   (repeat' (first|refine aA fun K hK=>?_|refine aC ?_|(with_reducible refine gR 7 ?_);refine dE 7 [0,1,2,3,4,5,6,7,8,9,10,11] mixed ?_|(with_reducible refine gR 8 ?_);refine dE 8 [0,1,2,3,4,5,6,7,8,9,10,11,12,13,14,15,16,17] mixed ?_|(refine hK _ _ ?_;clear hK K)|(refine aB ?_ ?_<;>intro hc<;>try exact jz)|refine cm (hex) ?_|refine cm (hmust) ?_|refine cm (hfind) ?_|refine cm (hfa) ?_|refine cm (hfb) ?_|refine rJ (dq (ar n) c a).vars (dq (ar n) c a).more [⟨(c.node a).name,(ar n c (c.aw a 0)).2,(dq (ar n) c a).size⟩] ?_|refine az ?_|exact jI|(clear hK K)))
   (refine bH [] ?_;try simp only[go_sem])
  ·have e2:dq (ar n) c a=iB (ar n) c a:=if_neg c2
   rw[e2]at hsl hcz hcv hcc;rw[e2]
   (repeat' (first|refine aA fun K hK=>?_|refine aC ?_|(with_reducible refine gR 7 ?_);refine dE 7 [0,1,2,3,4,5,6,7,8,9,10,11] mixed ?_|(with_reducible refine gR 8 ?_);refine dE 8 [0,1,2,3,4,5,6,7,8,9,10,11,12,13,14,15,16,17] mixed ?_|(refine hK _ _ ?_;clear hK K)|(refine aB ?_ ?_<;>intro hc<;>try exact jz)|refine cm (hex) ?_|refine cm (hmust) ?_|refine cm (hfind) ?_|refine cm (hfa) ?_|refine rJ (iB (ar n) c a).vars (iB (ar n) c a).more [⟨(c.node a).name,(ar n c (c.aw a 0)).2,(iB (ar n) c a).size⟩] ?_|refine az ?_|exact jI|(clear hK K)))
   (refine bH [] ?_;try simp only[go_sem])
 ·have e1:iB (ar n) c a=gg (ar n) c a:=if_neg c1
  rw[e1]at hfb;by_cases c2:24<=(gg (ar n) c a).size
  ·have e2:dq (ar n) c a=(gg (ar n) c a).aE 4 a:=by unfold dq;rw[e1];exact if_pos c2
   rw[<-e2]at hfb
   (repeat' (first|refine aA fun K hK=>?_|refine aC ?_|(with_reducible refine gR 7 ?_);refine dE 7 [0,1,2,3,4,5,6,7,8,9,10,11] mixed ?_|(with_reducible refine gR 8 ?_);refine dE 8 [0,1,2,3,4,5,6,7,8,9,10,11,12,13,14,15,16,17] mixed ?_|(refine hK _ _ ?_;clear hK K)|(refine aB ?_ ?_<;>intro hc<;>try exact jz)|refine cm (hex) ?_|refine cm (hmust) ?_|refine cm (hfind) ?_|refine cm (hfb) ?_|refine rJ (dq (ar n) c a).vars (dq (ar n) c a).more [⟨(c.node a).name,(ar n c (c.aw a 0)).2,(dq (ar n) c a).size⟩] ?_|refine az ?_|exact jI|(clear hK K)))
   (refine bH [] ?_;try simp only[go_sem])
  ·have e2:dq (ar n) c a=gg (ar n) c a:=by unfold dq;rw[e1];exact if_neg c2
   rw[e2]at hsl hcz hcv hcc;rw[e2]
   (repeat' (first|refine aA fun K hK=>?_|refine aC ?_|(with_reducible refine gR 7 ?_);refine dE 7 [0,1,2,3,4,5,6,7,8,9,10,11] mixed ?_|(with_reducible refine gR 8 ?_);refine dE 8 [0,1,2,3,4,5,6,7,8,9,10,11,12,13,14,15,16,17] mixed ?_|(refine hK _ _ ?_;clear hK K)|(refine aB ?_ ?_<;>intro hc<;>try exact jz)|refine cm (hex) ?_|refine cm (hmust) ?_|refine cm (hfind) ?_|refine rJ (gg (ar n) c a).vars (gg (ar n) c a).more [⟨(c.node a).name,(ar n c (c.aw a 0)).2,(gg (ar n) c a).size⟩] ?_|refine az ?_|exact jI|(clear hK K)))
   (refine bH [] ?_;try simp only[go_sem])
theorem G6(n:Nat)(hs:zY n):FK n:=by
 intro c a h h0 h1 hn hk;obtain⟨sh,hkid⟩:=uR h h0 h1;have hlen:(nth c.aa.nodes a.toNat).l.length<=300:=xS h h0 h1;have e0:=pe c a;have hq0:=h.ev e0;have hfl:=h.ap;have hvz:=h.vars;have hsz:=h.size;refine aU func152 ntmps152 ?_
 (refine S ?_;try exact jI)
 (repeat' (first|refine aA fun K hK=>?_|refine aC ?_|(with_reducible refine gR 0 ?_);refine dE 0 [0,1,2,3,4,5,6,7,8,9,10,11] mixed ?_|(refine hK _ _ ?_;clear hK K)|(refine aB ?_ ?_<;>intro hc<;>try exact jz)|refine az ?_|exact jI|(clear hK K)))
 have hKo:=hK;clear hK;refine fm (S:=Nat×Ck) [(6,1),(33,19)] (fun s=>s.1<=(c.node a).l.length/\Sv (c.ac a) s.2/\cY (bu n) s.2 ((c.node a).l.drop s.1)=cY (bu n) (c.ac a) (c.node a).l) (fun s=>[(6,rI s.1)]) (fun s=>⟨[0,1,2,3,4,5],fk s.2⟩) (fun s=>(c.node a).l.length-s.1) (0,c.ac a) ⟨jJ,.refl hq0,rfl⟩ (fi iW cX) ?_;rintro⟨i,q⟩ ⟨hi,hq,hA⟩ Kr hKr;simp only at hi hq hA
 (refine S ?_;try exact jI)
 have lt1:=hq.inv.types;have lt3:=hq.inv.ap;have lt4:=hq.inv.vars;have lt5:=hq.inv.size;by_cases hgo:i<(c.node a).l.length/\q.e=0
 ·obtain⟨hg1,hg2⟩:=hgo
  have hg1':i<(nth c.aa.nodes a.toNat).l.length:=hg1;rw[kP hg1,cY,if_pos hg2]at hA;have hm:nth (c.node a).l i∈(c.node a).l:=dx hg1;have hb:=hkid _ hm;have hst:=hs q (nth (c.node a).l i) hq.inv hg2 hb.1 (by rw[hq.aa];show _<(c.aa.nodes.length:Int);omega) jB (by
   have:q.node (nth (c.node a).l i)=c.node (nth (c.node a).l i):=by unfold Ck.node;rw[hq.aa];rfl
   rw[this];exact sh.block hk _ hm)
  (have W:=hg2;repeat' (first|refine aA fun K hK=>?_|refine aC ?_|(refine hK _ _ ?_;clear hK K)|(refine aB ?_ ?_<;>intro hc<;>try exact jz)|refine cm (hst) ?_|refine az ?_|exact jI|(clear hK K)));all_goals(try clear W)
  refine hKr _ _ (fw (i+1,bu n q (nth (c.node a).l i)) ⟨jJ,hq.trans (kK n q _ hq.inv hg2),hA⟩ jJ iW cX)
 ·have hz:q=cY (bu n) (c.ac a) (c.node a).l:=by
   by_cases hg1:i<(c.node a).l.length
   ·rw[kP hg1,cY,if_neg fun e=>hgo ⟨hg1,e⟩]at hA
    exact hA
   ·rw[List.drop_eq_nil_of_le jB,cY]at hA
    exact hA
  have e1:dR (bu n) c a={ q with vars:=q.vars.take (min c.vars.length q.vars.length),more:=q.vars.drop (min c.vars.length q.vars.length)++q.more }:=by
   unfold dR;rw[<-hz]
  obtain⟨u,hu⟩:=hq.pre;have hu:q.vars=c.vars++u:=hu;have hmin:min c.vars.length q.vars.length=c.vars.length:=by rw[hu];simp
  have hgo':¬(i<(nth c.aa.nodes a.toNat).l.length/\q.e=0):=hgo
  (repeat' (first|refine aA fun K hK=>?_|refine aC ?_|(with_reducible refine gR 7 ?_);refine dE 7 [0,1,2,3,4,5,6,7,8,9,10,11,12,13,14,15] mixed ?_|(refine hK _ _ ?_;clear hK K)|(refine aB ?_ ?_<;>intro hc<;>try exact jz)|refine hKo _ _ ?_|refine az ?_|exact jI|(clear hK K)))
  all_goals first|(exact absurd ⟨by have:=hc.1;omega,hc.2⟩ hgo')|skip
  have ht:q.vars.take c.vars.length=c.vars:=by rw[hu,List.take_left' rfl]
  have hd:q.vars.drop c.vars.length=u:=by rw[hu,List.drop_left' rfl]
  rw[e1,hmin,ht,hd]
  (refine bV [] ?_ ?_<;>(try simp only[go_sem]))
  simp only[hu,List.map_append,List.append_assoc,List.length_append,Nat.add_assoc];rw[jN,Int.toNat_natCast]
theorem K3(n:Nat)(hx:th n)(c:Ck)(a:Int)(h:bv c)(h0:0<=a)(h1:a<c.aa.nodes.length)(hn:a.toNat<=n)(hk:(c.node a).kind=17):aj prog 254 [pR,rI a] (fk c) (fun v l=>v=.bg []/\l=fk (jw (ar n) c a)):=by
 obtain⟨sh,hkid⟩:=uR h h0 h1;have hfn:=h.ua;have hfh:=h.u5;have hlen:(nth c.aa.nodes a.toNat).l.length<=300:=xS h h0 h1;have hfail:=rT c 43 a;have hcast:decide (((c.node a).l.length:Int)=1)=decide ((c.node a).l.length=1):=by rw[decide_eq_decide];omega
 by_cases b:decide ((c.node a).l.length=1)≠(!decide ((nth c.aa.ap c.fn.toNat).ret=0))
 ·have e1:jw (ar n) c a=c.aE 43 a:=if_pos b
  have hb:(decide (((nth c.aa.nodes a.toNat).l.length:Int)=1) == !decide ((nth c.aa.ap c.fn.toNat).ret=0))=false:=by
   rw[show((nth c.aa.nodes a.toNat).l.length)=(c.node a).l.length from rfl,hcast];simpa using b
  rw[e1];refine aU func254 ntmps254 ?_
  (refine S ?_;try exact jI)
  (have W:=hb;repeat' (first|refine aA fun K hK=>?_|refine aC ?_|(with_reducible refine gR 1 ?_);refine dE 1 [0,1,2,3,4,5,6,7,8,9,10,11,12,13] mixed ?_|(refine hK _ _ ?_;clear hK K)|(refine aB ?_ ?_<;>intro hc<;>try exact jz)|refine cm (hfail) ?_|refine az ?_|exact jI|(clear hK K)));all_goals(try clear W)
  (refine bH [] ?_;try simp only[go_sem])
 ·have hb:(decide (((nth c.aa.nodes a.toNat).l.length:Int)=1) == !decide ((nth c.aa.ap c.fn.toNat).ret=0))=true:=by
   rw[show((nth c.aa.nodes a.toNat).l.length)=(c.node a).l.length from rfl,hcast];rw[Classical.not_not.1 b];exact beq_self_eq_true _
  by_cases hl:(c.node a).l.length=1
  ·have hl':(nth c.aa.nodes a.toNat).l.length=1:=hl
   have e1:jw (ar n) c a=(ar n c (c.aw a 0)).1.aq (decide ((ar n c (c.aw a 0)).2=(nth c.aa.ap c.fn.toNat).ret)) a:=by unfold jw;simp only;rw[if_neg b,if_pos hl]
   rcases sh.ret hk with h2|⟨x,h2,h3⟩
   ·rw[h2]at hl;cases hl
   have hkx:c.aw a 0=x:=by unfold Ck.aw;rw[h2];rfl
   have hm:=hkid x (by rw[h2];simp);have hex:=hx c (c.aw a 0) h jB jB jB (by rw[hkx];exact .inl h3);have hmust:=nW (ar n c (c.aw a 0)).1 (decide ((ar n c (c.aw a 0)).2=(nth c.aa.ap c.fn.toNat).ret)) a;rw[e1];refine aU func254 ntmps254 ?_
   (refine S ?_;try exact jI)
   (have W:=hb;repeat' (first|refine aA fun K hK=>?_|refine aC ?_|(with_reducible refine gR 1 ?_);refine dE 1 [0,1,2,3,4,5,6,7,8,9,10,11,12,13] mixed ?_|(refine hK _ _ ?_;clear hK K)|(refine aB ?_ ?_<;>intro hc<;>try exact jz)|refine cm (hex) ?_|refine cm (hmust) ?_|refine az ?_|exact jI|(clear hK K)));all_goals(try clear W)
   (refine bH [] ?_;try simp only[go_sem])
  ·have hl':¬(nth c.aa.nodes a.toNat).l.length=1:=hl
   have e1:jw (ar n) c a=c:=by unfold jw;simp only;rw[if_neg b,if_neg hl]
   rw[e1];refine aU func254 ntmps254 ?_
   (refine S ?_;try exact jI)
   (have W:=hb;repeat' (first|refine aA fun K hK=>?_|refine aC ?_|(with_reducible refine gR 1 ?_);refine dE 1 [0,1,2,3,4,5,6,7,8,9,10,11,12,13] mixed ?_|(refine hK _ _ ?_;clear hK K)|(refine aB ?_ ?_<;>intro hc<;>try exact jz)|refine az ?_|exact jI|(clear hK K)));all_goals(try clear W)
   (refine bH [] ?_;try simp only[go_sem])
def J9(n:Nat):Prop:=∀(c:Ck) (a:Int),bv c->c.e=0->0<=a->a<c.aa.nodes.length->a.toNat<=n->(c.node a).kind=10->aj prog 250 [pR,rI a] (fk c) (fun v l=>v=.bg []/\l=fk (oj (ar n) c a))
def Jn(n:Nat):Prop:=∀(c:Ck) (a:Int),bv c->0<=a->a<c.aa.nodes.length->a.toNat<=n->(c.node a).kind=17->aj prog 254 [pR,rI a] (fk c) (fun v l=>v=.bg []/\l=fk (jw (ar n) c a))
theorem KE(n:Nat)(hx:th n)(hl:J9 n)(hr:Jn n)(hbl:FK n):zY (n+1):=by
 intro c a h he h0 h1 hn hk;have ev:=pe c a;have hq:=h.ev ev;obtain⟨sh,hkid⟩:=uR h h0 h1;have hlen:(nth c.aa.nodes a.toNat).l.length<=300:=xS h h0 h1;have hfl:=h.ap;have hvz:=h.vars;have hsz:=h.size;have hmem:∀i,i<(c.node a).l.length->(c.aw a i).toNat<n/\0<=c.aw a i/\c.aw a i<c.aa.nodes.length:=fun i hi=>by
  have hm:c.aw a i∈(c.node a).l:=dx hi;have:=hkid _ hm;omega
 have en:=l8 (c.ac a) a;have hqn:=hq.ev en;have hnm:=D4 (c.ac a) a hq h0 h1;have e17:(c.node a).kind=10\/(c.node a).kind=11\/(c.node a).kind=12\/(c.node a).kind=13\/(c.node a).kind=14\/(c.node a).kind=17\/((c.node a).kind=15\/(c.node a).kind=16):=by unfold dv at hk;omega
 rcases e17 with k|k|k|k|k|k|k
 ·have hk':(nth c.aa.nodes a.toNat).kind=10:=k
  have k0:((c.ac a).node a).kind=10:=k;have hlc:=hl (c.ac a) a hq he h0 h1 jB k0;rw[show bu (n+1) c a=oj (ar n) (c.ac a) a from by unfold bu;simp only;rw[k0];rfl];refine aU func216 ntmps216 ?_
  (refine S ?_;try exact jI)
  (have W:=hk';repeat' (first|refine aA fun K hK=>?_|refine aC ?_|(with_reducible refine gR 1 ?_);refine dE 1 [0,1,2,3,4,5,6,7,8,9,10,11] mixed ?_|(refine hK _ _ ?_;clear hK K)|(refine aB ?_ ?_<;>intro hc<;>try exact jz)|refine cm (hlc) ?_|refine az ?_|exact jI|(clear hK K)));all_goals(try clear W)
  (refine bH [] ?_;try simp only[go_sem])
 ·have hk':(nth c.aa.nodes a.toNat).kind=11:=k
  have k0:((c.ac a).node a).kind=11:=k;obtain⟨x,hl0,hx0⟩:=sh.right jB;have hl1:(c.node a).l.length=1:=by rw[hl0];rfl
  have hl':(nth c.aa.nodes a.toNat).l.length=1:=hl1;obtain⟨g0a,g0b,g0c⟩:=hmem 0 jB;have hk0:c.aw a 0=x:=by unfold Ck.aw;rw[hl0];rfl
  have hex:=hx ((c.ac a).named a).1 (c.aw a 0) hqn g0b (by rw[en.aa];exact g0c) g0a (by rw[en.node];show dM (c.node (c.aw a 0)).kind;rw[hk0];exact hx0);have hmust:=nW (ar n ((c.ac a).named a).1 (c.aw a 0)).1 (decide (((c.ac a).named a).2=(ar n ((c.ac a).named a).1 (c.aw a 0)).2)) a;rw[show bu (n+1) c a=(ar n ((c.ac a).named a).1 (c.aw a 0)).1.aq (decide (((c.ac a).named a).2=(ar n ((c.ac a).named a).1 (c.aw a 0)).2)) a from by unfold bu;simp only;rw[k0];rfl];refine aU func216 ntmps216 ?_
  (refine S ?_;try exact jI)
  (have W:=hk';repeat' (first|refine aA fun K hK=>?_|refine aC ?_|(with_reducible refine gR 1 ?_);refine dE 1 [0,1,2,3,4,5,6,7,8,9,10,11] mixed ?_|(refine hK _ _ ?_;clear hK K)|(refine aB ?_ ?_<;>intro hc<;>try exact jz)|refine cm (hnm) ?_|refine cm (hex) ?_|refine cm (hmust) ?_|refine az ?_|exact jI|(clear hK K)));all_goals(try clear W)
  (refine bH [] ?_;try simp only[go_sem])
 ·have hk':(nth c.aa.nodes a.toNat).kind=12:=k
  have k0:((c.ac a).node a).kind=12:=k;obtain⟨x,y,hl0,hx0,hx1⟩:=sh.two jB;have hl1:(c.node a).l.length=2:=by rw[hl0];rfl
  have hl':(nth c.aa.nodes a.toNat).l.length=2:=hl1;obtain⟨g0a,g0b,g0c⟩:=hmem 0 jB;have hk0:c.aw a 0=x:=by unfold Ck.aw;rw[hl0];rfl
  obtain⟨g1a,g1b,g1c⟩:=hmem 1 jB;have hk1:c.aw a 1=y:=by unfold Ck.aw;rw[hl0];rfl
  have ex1:=dp n ((c.ac a).named a).1 (c.aw a 0);have hex:=hx ((c.ac a).named a).1 (c.aw a 0) hqn g0b (by rw[en.aa];exact g0c) g0a (by rw[en.node];show dM (c.node (c.aw a 0)).kind;rw[hk0];exact .inl hx0);have hey:=hx (ar n ((c.ac a).named a).1 (c.aw a 0)).1 (c.aw a 1) (hqn.ev ex1) g1b (by rw[ex1.aa,en.aa];exact g1c) g1a (by rw[ex1.node,en.node];show dM (c.node (c.aw a 1)).kind;rw[hk1];exact .inl hx1);have hmust:=nW (ar n (ar n ((c.ac a).named a).1 (c.aw a 0)).1 (c.aw a 1)).1 (decide (((c.ac a).named a).2=4) && decide ((ar n ((c.ac a).named a).1 (c.aw a 0)).2=1) && decide ((ar n (ar n ((c.ac a).named a).1 (c.aw a 0)).1 (c.aw a 1)).2=1)) a;rw[show bu (n+1) c a=(ar n (ar n ((c.ac a).named a).1 (c.aw a 0)).1 (c.aw a 1)).1.aq (decide (((c.ac a).named a).2=4) && decide ((ar n ((c.ac a).named a).1 (c.aw a 0)).2=1) && decide ((ar n (ar n ((c.ac a).named a).1 (c.aw a 0)).1 (c.aw a 1)).2=1)) a from by unfold bu;simp only;rw[k0];rfl];refine aU func216 ntmps216 ?_
  (refine S ?_;try exact jI)
  (have W:=hk';repeat' (first|refine aA fun K hK=>?_|refine aC ?_|(with_reducible refine gR 1 ?_);refine dE 1 [0,1,2,3,4,5,6,7,8,9,10,11] mixed ?_|(refine hK _ _ ?_;clear hK K)|(refine aB ?_ ?_<;>intro hc<;>try exact jz)|refine cm (hnm) ?_|refine cm (hex) ?_|refine cm (hey) ?_|refine cm (hmust) ?_|refine az ?_|exact jI|(clear hK K)));all_goals(try clear W)
  (refine bH [] ?_;try simp only[go_sem])
 ·have hk':(nth c.aa.nodes a.toNat).kind=13:=k
  have k0:((c.ac a).node a).kind=13:=k;obtain⟨x,hl0,hx0⟩:=sh.mR jB;have hl1:(c.node a).l.length=1:=by rw[hl0];rfl
  have hl':(nth c.aa.nodes a.toNat).l.length=1:=hl1;obtain⟨g0a,g0b,g0c⟩:=hmem 0 jB;have hk0:c.aw a 0=x:=by unfold Ck.aw;rw[hl0];rfl
  have hex:=hx (c.ac a) (c.aw a 0) hq g0b g0c g0a (by show dM (c.node (c.aw a 0)).kind;rw[hk0];exact .inr (.inr (.inr hx0)));rw[show bu (n+1) c a=(ar n (c.ac a) (c.aw a 0)).1 from by unfold bu;simp only;rw[k0];rfl];refine aU func216 ntmps216 ?_
  (refine S ?_;try exact jI)
  (have W:=hk';repeat' (first|refine aA fun K hK=>?_|refine aC ?_|(with_reducible refine gR 1 ?_);refine dE 1 [0,1,2,3,4,5,6,7,8,9,10,11] mixed ?_|(refine hK _ _ ?_;clear hK K)|(refine aB ?_ ?_<;>intro hc<;>try exact jz)|refine cm (hex) ?_|refine az ?_|exact jI|(clear hK K)));all_goals(try clear W)
  (refine bH [] ?_;try simp only[go_sem])
 ·have hk':(nth c.aa.nodes a.toNat).kind=14:=k
  have k0:((c.ac a).node a).kind=14:=k;obtain⟨x,hl0,hx0⟩:=sh.one jB;have hl1:(c.node a).l.length=1:=by rw[hl0];rfl
  have hl':(nth c.aa.nodes a.toNat).l.length=1:=hl1;obtain⟨g0a,g0b,g0c⟩:=hmem 0 jB;have hk0:c.aw a 0=x:=by unfold Ck.aw;rw[hl0];rfl
  have hex:=hx (c.ac a) (c.aw a 0) hq g0b g0c g0a (by show dM (c.node (c.aw a 0)).kind;rw[hk0];exact .inl hx0);have hmust:=nW (ar n (c.ac a) (c.aw a 0)).1 (!decide ((ar n (c.ac a) (c.aw a 0)).2=4)) a;rw[show bu (n+1) c a=(ar n (c.ac a) (c.aw a 0)).1.aq (!decide ((ar n (c.ac a) (c.aw a 0)).2=4)) a from by unfold bu;simp only;rw[k0];rfl];refine aU func216 ntmps216 ?_
  (refine S ?_;try exact jI)
  (have W:=hk';repeat' (first|refine aA fun K hK=>?_|refine aC ?_|(with_reducible refine gR 1 ?_);refine dE 1 [0,1,2,3,4,5,6,7,8,9,10,11] mixed ?_|(refine hK _ _ ?_;clear hK K)|(refine aB ?_ ?_<;>intro hc<;>try exact jz)|refine cm (hex) ?_|refine cm (hmust) ?_|refine az ?_|exact jI|(clear hK K)));all_goals(try clear W)
  (refine bH [] ?_;try simp only[go_sem])
 ·have hk':(nth c.aa.nodes a.toNat).kind=17:=k
  have k0:((c.ac a).node a).kind=17:=k;have hrc:=hr (c.ac a) a hq h0 h1 jB k0;rw[show bu (n+1) c a=jw (ar n) (c.ac a) a from by unfold bu;simp only;rw[k0];rfl];refine aU func216 ntmps216 ?_
  (refine S ?_;try exact jI)
  (have W:=hk';repeat' (first|refine aA fun K hK=>?_|refine aC ?_|(with_reducible refine gR 1 ?_);refine dE 1 [0,1,2,3,4,5,6,7,8,9,10,11] mixed ?_|(refine hK _ _ ?_;clear hK K)|(refine aB ?_ ?_<;>intro hc<;>try exact jz)|refine cm (hrc) ?_|refine az ?_|exact jI|(clear hK K)));all_goals(try clear W)
  (refine bH [] ?_;try simp only[go_sem])
 ·have hall:1<=(c.node a).l.length/\bO (c.node (c.aw a 0)).kind/\∀i,i<(c.node a).l.length->1<=i->(c.node (nth (c.node a).l i)).kind=18:=by
   have fin:∀{x y:Int},(c.node a).l=[x,y]->bO (bs c.aa.nodes x)->bs c.aa.nodes y=18->1<=(c.node a).l.length/\bO (c.node (c.aw a 0)).kind/\∀i,i<(c.node a).l.length->1<=i->(c.node (nth (c.node a).l i)).kind=18:=fun{x y} e hx hy=>by
    refine⟨by rw[e];simp,by have:c.aw a 0=x:=(by unfold Ck.aw;rw[e];rfl);rw[this];exact hx,fun i hi h1=>?_⟩;rw[e]at hi ⊢;obtain rfl:i=1:=by simp at hi;omega
    exact hy
   rcases k with k|k
   ·obtain⟨x,y,hxe,hye,hl0⟩:=sh.kg k
    rcases hl0 with hl0|⟨d,hl0,hd⟩
    ·exact fin hl0 hxe hye
    ·refine⟨by rw[hl0];simp,by have:c.aw a 0=x:=(by unfold Ck.aw;rw[hl0];rfl);rw[this];exact hxe,fun i hi h1=>?_⟩
     rw[hl0]at hi ⊢;rcases(show i=1\/i=2 by simp at hi;omega)with rfl|rfl
     ·exact hye
     ·exact hd
   ·obtain⟨x,y,hl0,hxe,hye⟩:=sh.dK k
    exact fin hl0 hxe hye
  obtain⟨hl1,hxe,hblk⟩:=hall;have hl':1<=(nth c.aa.nodes a.toNat).l.length:=hl1;obtain⟨g0a,g0b,g0c⟩:=hmem 0 jB;have hex:=hx (c.ac a) (c.aw a 0) hq g0b g0c g0a (.inl hxe);have eM:Ev c ((ar n (c.ac a) (c.aw a 0)).1.aq (decide ((ar n (c.ac a) (c.aw a 0)).2=2)) a):=(ev.trans (dp n _ _)).trans (ir _ _ _);have hM:=h.ev eM;have hmust:=nW (ar n (c.ac a) (c.aw a 0)).1 (decide ((ar n (c.ac a) (c.aw a 0)).2=2)) a;rcases k with k|k
  ·have hk':(nth c.aa.nodes a.toNat).kind=15:=k
   have k0:((c.ac a).node a).kind=15:=k;rw[show bu (n+1) c a=cY (dR (bu n)) ((ar n (c.ac a) (c.aw a 0)).1.aq (decide ((ar n (c.ac a) (c.aw a 0)).2=2)) a) ((c.node a).l.drop 1) from by unfold bu;simp only;rw[k0];rfl];generalize hY:cY (dR (bu n)) ((ar n (c.ac a) (c.aw a 0)).1.aq (decide ((ar n (c.ac a) (c.aw a 0)).2=2)) a) ((c.node a).l.drop 1)=Y;refine aU func216 ntmps216 ?_
   (refine S ?_;try exact jI)
   (have W:=hk';repeat' (first|refine aA fun K hK=>?_|refine aC ?_|(with_reducible refine gR 1 ?_);refine dE 1 [0,1,2,3,4,5,6,7,8,9,10,11] mixed ?_|(refine hK _ _ ?_;clear hK K)|(refine aB ?_ ?_<;>intro hc<;>try exact jz)|refine cm (hex) ?_|refine cm (hmust) ?_|refine az ?_|exact jI|(clear hK K)));all_goals(try clear W)
   refine fm (S:=Nat×Ck) [(12,1),(46,21)] (fun s=>s.1<=(c.node a).l.length/\1<=s.1/\bv s.2/\s.2.aa=c.aa/\cY (dR (bu n)) s.2 ((c.node a).l.drop s.1)=Y) (fun s=>[(12,rI s.1)]) (fun s=>⟨[0,1,2,3,4,5],fk s.2++[(6,.var 53 (er (c.node a)))]⟩) (fun s=>(c.node a).l.length-s.1) (1,(ar n (c.ac a) (c.aw a 0)).1.aq (decide ((ar n (c.ac a) (c.aw a 0)).2=2)) a) ⟨jJ,Nat.le_refl _,hM,eM.aa,hY⟩ (fi iW cX) ?_;rintro⟨i,z⟩ ⟨hi,hi1,hz,hzt,hA⟩ Kr hKr;simp only at hi hi1 hz hzt hA;have hi':i<=(nth c.aa.nodes a.toNat).l.length:=hi
   (refine S ?_;try exact jI)
   by_cases hgo:i<(c.node a).l.length/\z.e=0
   ·obtain⟨hg1,hg2⟩:=hgo
    have hg1':i<(nth c.aa.nodes a.toNat).l.length:=hg1;rw[kP hg1,cY,if_pos hg2]at hA;have hm:nth (c.node a).l i∈(c.node a).l:=dx hg1;have hb:=hkid _ hm;have hbc:=hbl z (nth (c.node a).l i) hz hb.1 (by rw[hzt];omega) jB (by
     have:z.node (nth (c.node a).l i)=c.node (nth (c.node a).l i):=by unfold Ck.node;rw[hzt]
     rw[this];exact hblk i hg1 hi1)
    have sz:=(oz (fun q b hq he=>kK n q b hq he) hz (nth (c.node a).l i)).1
    (have W:=hg2;repeat' (first|refine aA fun K hK=>?_|refine aC ?_|(refine hK _ _ ?_;clear hK K)|(refine aB ?_ ?_<;>intro hc<;>try exact jz)|refine cm (hbc) ?_|refine az ?_|exact jI|(clear hK K)));all_goals(try clear W)
    refine hKr _ _ (fw (i+1,dR (bu n) z (nth (c.node a).l i)) ⟨jJ,jJ,sz.inv,sz.aa.trans hzt,hA⟩ jJ iW cX)
   ·have hz2:z=Y:=by
     by_cases hg1:i<(c.node a).l.length
     ·rw[kP hg1,cY,if_neg fun e=>hgo ⟨hg1,e⟩]at hA
      exact hA
     ·rw[List.drop_eq_nil_of_le jB,cY]at hA
      exact hA
    have hgo':¬(i<(nth c.aa.nodes a.toNat).l.length/\z.e=0):=hgo
    (repeat' (first|refine aA fun K hK=>?_|refine aC ?_|(refine hK _ _ ?_;clear hK K)|(refine aB ?_ ?_<;>intro hc<;>try exact jz)|refine az ?_|exact jI|(clear hK K)))
    all_goals first|(exact absurd ⟨by have:=hc.1;omega,hc.2⟩ hgo')|skip
    rw[<-hz2]
    (refine bH [] ?_;try simp only[go_sem])
  ·have hk':(nth c.aa.nodes a.toNat).kind=16:=k
   have k0:((c.ac a).node a).kind=16:=k;rw[show bu (n+1) c a=cY (dR (bu n)) ((ar n (c.ac a) (c.aw a 0)).1.aq (decide ((ar n (c.ac a) (c.aw a 0)).2=2)) a) ((c.node a).l.drop 1) from by unfold bu;simp only;rw[k0];rfl];generalize hY:cY (dR (bu n)) ((ar n (c.ac a) (c.aw a 0)).1.aq (decide ((ar n (c.ac a) (c.aw a 0)).2=2)) a) ((c.node a).l.drop 1)=Y;refine aU func216 ntmps216 ?_
   (refine S ?_;try exact jI)
   (have W:=hk';repeat' (first|refine aA fun K hK=>?_|refine aC ?_|(with_reducible refine gR 1 ?_);refine dE 1 [0,1,2,3,4,5,6,7,8,9,10,11] mixed ?_|(refine hK _ _ ?_;clear hK K)|(refine aB ?_ ?_<;>intro hc<;>try exact jz)|refine cm (hex) ?_|refine cm (hmust) ?_|refine az ?_|exact jI|(clear hK K)));all_goals(try clear W)
   refine fm (S:=Nat×Ck) [(12,1),(46,21)] (fun s=>s.1<=(c.node a).l.length/\1<=s.1/\bv s.2/\s.2.aa=c.aa/\cY (dR (bu n)) s.2 ((c.node a).l.drop s.1)=Y) (fun s=>[(12,rI s.1)]) (fun s=>⟨[0,1,2,3,4,5],fk s.2++[(6,.var 53 (er (c.node a)))]⟩) (fun s=>(c.node a).l.length-s.1) (1,(ar n (c.ac a) (c.aw a 0)).1.aq (decide ((ar n (c.ac a) (c.aw a 0)).2=2)) a) ⟨jJ,Nat.le_refl _,hM,eM.aa,hY⟩ (fi iW cX) ?_;rintro⟨i,z⟩ ⟨hi,hi1,hz,hzt,hA⟩ Kr hKr;simp only at hi hi1 hz hzt hA;have hi':i<=(nth c.aa.nodes a.toNat).l.length:=hi
   (refine S ?_;try exact jI)
   by_cases hgo:i<(c.node a).l.length/\z.e=0
   ·obtain⟨hg1,hg2⟩:=hgo
    have hg1':i<(nth c.aa.nodes a.toNat).l.length:=hg1;rw[kP hg1,cY,if_pos hg2]at hA;have hm:nth (c.node a).l i∈(c.node a).l:=dx hg1;have hb:=hkid _ hm;have hbc:=hbl z (nth (c.node a).l i) hz hb.1 (by rw[hzt];omega) jB (by
     have:z.node (nth (c.node a).l i)=c.node (nth (c.node a).l i):=by unfold Ck.node;rw[hzt]
     rw[this];exact hblk i hg1 hi1)
    have sz:=(oz (fun q b hq he=>kK n q b hq he) hz (nth (c.node a).l i)).1
    (have W:=hg2;repeat' (first|refine aA fun K hK=>?_|refine aC ?_|(refine hK _ _ ?_;clear hK K)|(refine aB ?_ ?_<;>intro hc<;>try exact jz)|refine cm (hbc) ?_|refine az ?_|exact jI|(clear hK K)));all_goals(try clear W)
    refine hKr _ _ (fw (i+1,dR (bu n) z (nth (c.node a).l i)) ⟨jJ,jJ,sz.inv,sz.aa.trans hzt,hA⟩ jJ iW cX)
   ·have hz2:z=Y:=by
     by_cases hg1:i<(c.node a).l.length
     ·rw[kP hg1,cY,if_neg fun e=>hgo ⟨hg1,e⟩]at hA
      exact hA
     ·rw[List.drop_eq_nil_of_le jB,cY]at hA
      exact hA
    have hgo':¬(i<(nth c.aa.nodes a.toNat).l.length/\z.e=0):=hgo
    (repeat' (first|refine aA fun K hK=>?_|refine aC ?_|(refine hK _ _ ?_;clear hK K)|(refine aB ?_ ?_<;>intro hc<;>try exact jz)|refine az ?_|exact jI|(clear hK K)))
    all_goals first|(exact absurd ⟨by have:=hc.1;omega,hc.2⟩ hgo')|skip
    rw[<-hz2]
    (refine bH [] ?_;try simp only[go_sem])
end Go.Proofs.YtfkgcobaheegbaaGreatDoor
namespace Go.Gd
open Go
theorem dz.sc{F:List AV}{H:Hp}(j k:Nat){t:TypeId}{cs:List AV}(hj:H.get j=some (.var t cs)):dz F H F (H.put j (.var t (cs.set k .any))):=fun w tm h1 h2=>by
 obtain⟨a',b'⟩:=AJ (cs':=cs.set k .any) h1 (j:=j) (t:=t) (cs:=cs) hj jE fun n x x' v hx hx' hv=>by
  rw[List.getElem?_set]at hx';by_cases hn:k=n
  ·subst hn
   rw[if_pos rfl]at hx';split at hx'
   ·cases hx';exact .any _
   ·cases hx'
  ·rw[if_neg hn]at hx'
   rw[hx]at hx';cases hx';exact hv
 exact⟨w,rfl,a',h2,b'.qB⟩
theorem GH{P:Program}{id:Nat}{l:List Oper}{b:Bool}{Q:Exit->List AV->Hp->Prop}{F:List AV}{H:Hp}{q:Prop}(j k:Nat){t:TypeId}{cs:List AV}{i m sz n:Nat}(h:q)(hj:H.get j=some (.var t cs):=by rfl)(hc:cs[k]?=some (.rs i m sz n):=by rfl)(e:dH P (.region id l.toArray b) Q F (H.put j (.var t (cs.set k .any)))=q:=by first|(simp only[go_sem];rfl)|rfl):dH P (.region id l.toArray b) Q F H:=iS (dz.sc j k hj) (e ▸ h)
end Go.Gd
namespace Go.Proofs.YtfkgcobaheegbaaGreatDoor
open Go Go.Gd Tryz
theorem wG:∀n,th n
 |0=>fun c a h h0 h1 hn=>by omega
 |n+1=>MF n (MJ n (wG n) (HP n (wG n)))
theorem CG:∀n,zY n
 |0=>fun c a h he h0 h1 hn=>by omega
 |n+1=>KE n (wG n) (fun c a h he h0 h1 hn hk=>MA n (wG n) c a h he h0 h1 hn hk) (fun c a h h0 h1 hn hk=>K3 n (wG n) c a h h0 h1 hn hk) (G6 n (CG n))
def yc(c:Ck):List AV:=[bt er 5 c.aa.nodes,bt fU 5 c.aa.ap,.rs 1 c.types.length 1 c.types.length,.rs 2 c.slots.length 1 c.slots.length,.rs 3 c.ap.length 1 c.ap.length,.rs 4 c.aM.length 1 c.aM.length,rI c.fn,.any,rI c.size,rI c.e,rI c.at_]
def mY(c:Ck):List (Nat×Row):=[(0,.var 172 (yc c)),(1,.aO 3 1 (c.types.map eI)),(2,.aO 3 1 (c.slots.map eI)),(3,.aO 3 1 (c.ap.map eI)),(4,.aO 3 1 (c.aM.map eI))]
attribute [go_sem] mY yc
structure fa(c:Ck):Prop where
 aa:aH c.aa
 types:c.types.length=c.aa.nodes.length
 slots:c.slots.length=c.aa.nodes.length
 ap:c.ap.length=c.aa.nodes.length
def jS(c:Ck)(v:bC):Ck:={ c with vars:=c.vars++[v],more:=c.more.drop 1,size:=c.size+1 }
attribute [go_sem] jS
theorem BP{c:Ck}(h:bv c)(v:bC)(hs:c.size<=20):bv (jS c v):=⟨h.aa,h.types,h.slots,h.ap,h.aM,h.ua,h.u5,by
 have:=h.vars;show((c.vars++[v]).length:Int)<=c.size+1;simp;omega,by show c.size+1<=25;omega,fun _=>by show c.size+1<=24;omega⟩
theorem Pn(c:Ck)(k:Nat)(h:fa c)(hk:k<c.aa.ap.length)(hsz:c.aM.length<6):aj prog 97 [pR,rI k] (mY c) (fun v l=>v=.bg []/\l=mY (ff c k)):=by
 have hff:=h.aa.ap;have hfn:=h.aa.fn _ (dx hk);have hp3:=hfn.2;have hbk:=h.aa.body _ (dx hk);have hbm:=h.aa.chain.mem (nth c.aa.ap k).body (List.mem_map.2 ⟨_,dx hk,rfl⟩);refine aU func97 ntmps97 ?_
 (refine S ?_;try exact jI)
 (repeat' (first|refine aA fun K hK=>?_|refine aC ?_|(refine hK _ _ ?_;clear hK K)|(refine aB ?_ ?_<;>intro hc<;>try exact jz)|refine al 6 ?_|refine az ?_|exact jI|(clear hK K)))
 have hKo:=hK;clear hK;refine iS (dz.fH 5 0 7 63 3 rfl jC rfl rfl) ?_
 (refine S ?_;try exact jI)
 generalize hc0:({ c with fn:=(k:Int),vars:=[],more:=[],size:=0 }:Ck)=c0;have hi0:bv c0:=by
  subst hc0;exact⟨h.aa,h.types,h.slots,h.ap,by show c.aM.length<=6;omega,by show(0:Int)<=k;omega,by show(k:Int)<(c.aa.ap.length:Int);omega,by show((0:Nat):Int)<=0;omega,by show(0:Int)<=25;omega,fun _=>by show(0:Int)<=24;omega⟩
 have hc1:ff c k=(fun c2:Ck=>{ c2 with aM:=c2.aM++[c2.size],vars:=[],more:=[] }) (if(dD (nth c.aa.ap k).body c0 (nth c.aa.ap k).params 0).e=0 then dR (bu c.aa.nodes.length) (dD (nth c.aa.ap k).body c0 (nth c.aa.ap k).params 0) (nth c.aa.ap k).body else dD (nth c.aa.ap k).body c0 (nth c.aa.ap k).params 0):=by subst hc0;rfl
 refine iS (dz.perm (fk c0++[(6,.var 100 (fU (nth c.aa.ap k)))]) (fun i=>by subst hc0;simp only[go_sem,aD];(repeat' split)<;>first|rfl|omega)) ?_;refine fm (S:=Nat×Ck) [(5,1),(25,50)] (fun s=>s.1<=(nth c.aa.ap k).params.length/\bv s.2/\s.2.size=s.1/\s.2.vars.length=s.1/\s.2.aa=c.aa/\s.2.aM=c.aM/\dD (nth c.aa.ap k).body s.2 ((nth c.aa.ap k).params.drop s.1) s.1=dD (nth c.aa.ap k).body c0 (nth c.aa.ap k).params 0) (fun s=>[(5,rI s.1)]) (fun s=>⟨[0,1,2,3,4],fk s.2++[(6,.var 100 (fU (nth c.aa.ap k)))]⟩) (fun s=>(nth c.aa.ap k).params.length-s.1) (0,c0) ⟨jJ,hi0,by subst hc0;rfl,by subst hc0;rfl,by subst hc0;rfl,by subst hc0;rfl,rfl⟩ (fi rfl cX) ?_;rintro⟨i,q⟩ ⟨hi,hq,hqs,hqv,hqt,hqz,hA⟩ Kr hKr;simp only at hi hq hqs hqv hqt hqz hA
 (refine S ?_;try exact jI)
 by_cases hlt:i<(nth c.aa.ap k).params.length
 ·rw[kP hlt,dD]at hA
  have hfind:=B0 q (nth (nth c.aa.ap k).params i).name hq;have hfa:=rT q 41 (nth c.aa.ap k).body;by_cases hf:0<=q.find (nth (nth c.aa.ap k).params i).name
  ·rw[if_pos hf]at hA
   have ef:=mj q (e:=41) jC (nth c.aa.ap k).body;have hv1:=ef.vars;have hz1:=ef.size;have hi1:=hq.ev ef;have hvl:(q.aE 41 (nth c.aa.ap k).body).vars.length=i:=by rw[hv1,hqv]
   (repeat' (first|refine aA fun K hK=>?_|refine aC ?_|(with_reducible refine gR 9 ?_);refine dE 9 [0,1,2,3,4,5,6,7,8,9,10,11,12,13,14,15,16,17,18,19,20,21,22,23] mixed ?_|(refine hK _ _ ?_;clear hK K)|(refine aB ?_ ?_<;>intro hc<;>try exact jz)|refine cm (hfind) ?_|refine cm (hfa) ?_|refine rJ (q.aE 41 (nth c.aa.ap k).body).vars (q.aE 41 (nth c.aa.ap k).body).more [⟨(nth (nth c.aa.ap k).params i).name,(nth (nth c.aa.ap k).params i).ty,(i:Int)⟩] ?_|refine az ?_|exact jI|(clear hK K)))
   refine hKr _ _ (fw (i+1,jS (q.aE 41 (nth c.aa.ap k).body) ⟨(nth (nth c.aa.ap k).params i).name,(nth (nth c.aa.ap k).params i).ty,(i:Int)⟩) ⟨jJ,BP hi1 _ jB,by show(q.aE 41 (nth c.aa.ap k).body).size+1=_;omega,by show((q.aE 41 (nth c.aa.ap k).body).vars++[_]).length=i+1;rw[List.length_append,hvl];rfl,ef.aa.trans hqt,ef.aM.trans hqz,hA⟩ jJ iW cX)
  ·rw[if_neg hf]at hA
   (repeat' (first|refine aA fun K hK=>?_|refine aC ?_|(with_reducible refine gR 9 ?_);refine dE 9 [0,1,2,3,4,5,6,7,8,9,10,11,12,13,14,15,16,17,18,19,20,21,22,23] mixed ?_|(refine hK _ _ ?_;clear hK K)|(refine aB ?_ ?_<;>intro hc<;>try exact jz)|refine cm (hfind) ?_|refine rJ q.vars q.more [⟨(nth (nth c.aa.ap k).params i).name,(nth (nth c.aa.ap k).params i).ty,(i:Int)⟩] ?_|refine az ?_|exact jI|(clear hK K)))
   refine hKr _ _ (fw (i+1,jS q ⟨(nth (nth c.aa.ap k).params i).name,(nth (nth c.aa.ap k).params i).ty,(i:Int)⟩) ⟨jJ,BP hq _ jB,by show q.size+1=_;omega,by show(q.vars++[_]).length=i+1;rw[List.length_append,hqv];rfl,hqt,hqz,hA⟩ jJ iW cX)
 ·have hz:q=dD (nth c.aa.ap k).body c0 (nth c.aa.ap k).params 0:=by
   rw[List.drop_eq_nil_of_le jB]at hA;exact hA
  rw[<-hz]at hc1;by_cases he:q.e=0
  ·rw[if_pos he]at hc1
   have sb:=(oz (fun q b hq he=>kK c.aa.nodes.length q b hq he) hq (nth c.aa.ap k).body).1;have hbc:=G6 c.aa.nodes.length (CG _) q (nth c.aa.ap k).body hq hbm.1 (by rw[hqt];omega) jB (by unfold Ck.node;rw[hqt];exact hbk);have hzl:(dR (bu c.aa.nodes.length) q (nth c.aa.ap k).body).aM.length<6:=by rw[sb.aM,hqz];exact hsz
   (have W:=he;repeat' (first|refine GH (id:=13) 0 7 ?_|refine aA fun K hK=>?_|refine aC ?_|(with_reducible refine gR 13 ?_);refine dE 13 [0,1,2,3,4,5,6,7,8,9,10,11,12,13,14,15] mixed ?_|(refine hK _ _ ?_;clear hK K)|(refine aB ?_ ?_<;>intro hc<;>try exact jz)|refine hKo _ _ ?_|refine cm (hbc) ?_|refine az ?_|exact jI|(clear hK K)));all_goals(try clear W)
   rw[hc1]
   (refine bH [] ?_;try simp only[go_sem])
  ·rw[if_neg he]at hc1
   have hzl:q.aM.length<6:=by rw[hqz];exact hsz
   (have W:=he;repeat' (first|refine GH (id:=13) 0 7 ?_|refine aA fun K hK=>?_|refine aC ?_|(with_reducible refine gR 13 ?_);refine dE 13 [0,1,2,3,4,5,6,7,8,9,10,11,12,13,14,15] mixed ?_|(refine hK _ _ ?_;clear hK K)|(refine aB ?_ ?_<;>intro hc<;>try exact jz)|refine hKo _ _ ?_|refine az ?_|exact jI|(clear hK K)));all_goals(try clear W)
   rw[hc1]
   (refine bH [] ?_;try simp only[go_sem])
theorem EB(c:Ck)(e a:Int):aj prog 150 [pR,rI e,rI a] (mY c) (fun v l=>v=.bg []/\l=mY (c.aE e a)):=by
 refine aU func150 ntmps150 ?_
 (refine S ?_;try exact jI)
 (repeat' (first|refine aA fun K hK=>?_|refine aC ?_|(refine hK _ _ ?_;clear hK K)|(refine aB ?_ ?_<;>intro hc<;>try exact jz)|refine az ?_|exact jI|(clear hK K)))
 ·(refine bV [] ?_ ?_<;>(try simp only[go_sem]))
  simp only[Ck.aE,if_pos hc,mY,yc]
 ·(refine bV [] ?_ ?_<;>(try simp only[go_sem]))
  simp only[Ck.aE,if_neg hc,mY,yc]
theorem Ae(x:aW):∀(l:List aW) (c:Ck),Ev c (lD x c l)
 |[],c=>by unfold lD;exact .refl c
 |f::l,c=>by
  unfold lD;refine Ev.trans ?_ (Ae x l _);split
  ·exact mj c jC _
  ·exact .refl c
theorem zI(ap:List aW):∀(n:Nat) (c:Ck) (m:Bool) (i:Nat),Ev c (kF ap c m i n).1
 |0,c,m,i=>by unfold kF;exact .refl c
 |n+1,c,m,i=>by
  unfold kF;exact(Ae _ _ _).trans (zI ap n _ _ _)
theorem Hx(c:Ck):Ev c (iN c):=by
 unfold iN;simp only;split
 ·exact zI _ _ _ _ _
 ·exact(zI _ _ _ _ _).trans (mj _ jC _)
theorem HL(c:Ck)(h:c.aa.ap.length<=6):aj prog 96 [pR] (mY c) (fun v l=>v=.bg []/\l=mY (iN c)):=by
 refine aU func96 ntmps96 ?_
 (refine S ?_;try exact jI)
 (repeat' (first|refine aA fun K hK=>?_|refine aC ?_|(refine hK _ _ ?_;clear hK K)|(refine aB ?_ ?_<;>intro hc<;>try exact jz)|refine az ?_|exact jI|(clear hK K)))
 have hKo:=hK;clear hK;refine fm (S:=Nat×Ck×Bool) [(3,3),(12,55)] (fun s=>s.1<=c.aa.ap.length/\kF c.aa.ap s.2.1 s.2.2 s.1 (c.aa.ap.length-s.1)=kF c.aa.ap c false 0 c.aa.ap.length/\s.2.1.aa=c.aa) (fun s=>[(4,rI s.1),(3,rB s.2.2)]) (fun s=>⟨[0,1,2,3,4],mY s.2.1⟩) (fun s=>c.aa.ap.length-s.1) (0,c,false) ⟨jJ,rfl,rfl⟩ (fi iW cX) ?_;rintro⟨i,q,m⟩ ⟨hi,hA,hqt⟩ Kr hKr;simp only at hi hA hqt
 (refine S ?_;try exact jI)
 by_cases hlt:i<c.aa.ap.length
 ·rw[show c.aa.ap.length-i=(c.aa.ap.length-(i+1))+1 from jB,kF]at hA
  (repeat' (first|refine aA fun K hK=>?_|refine aC ?_|(refine hK _ _ ?_;clear hK K)|(refine aB ?_ ?_<;>intro hc<;>try exact jz)|refine az ?_|exact jI|(clear hK K)))
  have hKi:=hK;clear hK;have hKb:=hK;clear hK;refine fm (S:=Nat×Ck) [(5,1),(18,23)] (fun s=>s.1<=i/\lD (nth c.aa.ap i) s.2 ((c.aa.ap.take i).drop s.1)=lD (nth c.aa.ap i) q (c.aa.ap.take i)) (fun s=>[(5,rI s.1)]) (fun s=>⟨[0,1,2,3,4],mY s.2⟩) (fun s=>i-s.1) (0,q) ⟨jJ,rfl⟩ (fi iW cX) ?_;rintro⟨k,z⟩ ⟨hk,hB⟩ Kj hKj;simp only at hk hB
  (refine S ?_;try exact jI)
  by_cases hkl:k<i
  ·have hkt:k<(c.aa.ap.take i).length:=by rw[List.length_take];omega
   have hnt:nth (c.aa.ap.take i) k=nth c.aa.ap k:=by simp[nth,List.getD_eq_getElem?_getD,List.getElem?_take,hkl]
   rw[kP hkt,hnt,lD]at hB;have hfa:=EB z 41 (nth c.aa.ap i).body
   (repeat' (first|refine aA fun K hK=>?_|refine aC ?_|(with_reducible refine gR 8 ?_);refine dE 8 [0,1,2,3,4,5,6,7,8,9,10] mixed ?_|(refine hK _ _ ?_;clear hK K)|(refine aB ?_ ?_<;>intro hc<;>try exact jz)|refine cm (hfa) ?_|refine az ?_|exact jI|(clear hK K)))
   ·rw[if_pos hc]at hB
    refine hKj _ _ (fw (k+1,z.aE 41 (nth c.aa.ap i).body) ⟨jJ,hB⟩ jJ iW cX)
   ·rw[if_neg hc]at hB
    refine hKj _ _ (fw (k+1,z) ⟨jJ,hB⟩ jJ iW cX)
  ·rw[List.drop_eq_nil_of_le (by rw[List.length_take];omega),lD]at hB
   (repeat' (first|refine aA fun K hK=>?_|refine aC ?_|(refine hK _ _ ?_;clear hK K)|(refine aB ?_ ?_<;>intro hc<;>try exact jz)|refine hKi _ _ ?_|refine hKb _ _ ?_|refine az ?_|exact jI|(clear hK K)))
   refine hKr _ _ (fw (i+1,z,m || uf (nth c.aa.ap i)) ⟨jJ,by rw[<-hB]at hA;exact hA,by rw[hB];exact(Ae _ _ _).aa.trans hqt⟩ jJ iW (by simp only[go_sem,jt,Nat.reduceAdd,AV.raw.injEq,Value.int.injEq,Value.slice.injEq,Value.pointer.injEq,AV.rs.injEq,uf];try omega))
 ·rw[show c.aa.ap.length-i=0 from jB,kF]at hA
  have hz:iN c=if m=true then q else q.aE 44 0:=by unfold iN;rw[<-hA]
  have hfa:=EB q 44 0;cases m
  ·rw[if_neg jC]at hz
   (repeat' (first|refine aA fun K hK=>?_|refine aC ?_|(refine hK _ _ ?_;clear hK K)|(refine aB ?_ ?_<;>intro hc<;>try exact jz)|refine hKo _ _ ?_|refine cm (hfa) ?_|refine az ?_|exact jI|(clear hK K)))
   rw[hz]
   (refine bV [] ?_ ?_<;>(try simp only[go_sem]))
  ·rw[if_pos rfl]at hz
   (repeat' (first|refine aA fun K hK=>?_|refine aC ?_|(refine hK _ _ ?_;clear hK K)|(refine aB ?_ ?_<;>intro hc<;>try exact jz)|refine hKo _ _ ?_|refine az ?_|exact jI|(clear hK K)))
   rw[hz]
   (refine bV [] ?_ ?_<;>(try simp only[go_sem]))
theorem wi(body:Int):∀(ps:List bD) (c:Ck) (i:Int),bv c->c.size+ps.length<=20->bv (dD body c ps i)/\(dD body c ps i).aa=c.aa/\(dD body c ps i).aM=c.aM
 |[],c,i,h,hs=>by unfold dD;exact⟨h,rfl,rfl⟩
 |p::ps,c,i,h,hs=>by
  unfold dD;simp only[List.length_cons]at hs;have fin:∀c1:Ck,Ev c c1->bv (dD body (jS c1 ⟨p.name,p.ty,i⟩) ps (i+1))/\(dD body (jS c1 ⟨p.name,p.ty,i⟩) ps (i+1)).aa=c.aa/\(dD body (jS c1 ⟨p.name,p.ty,i⟩) ps (i+1)).aM=c.aM:=fun c1 s=>by
   have h1:=h.ev s;have hz:=s.size;obtain⟨a,b,d⟩:=wi body ps (jS c1 ⟨p.name,p.ty,i⟩) (i+1) (BP h1 _ jB) (by show c1.size+1+_<=20;omega);exact⟨a,b.trans s.aa,d.trans s.aM⟩
  simp only;split
  ·exact fin _ (mj c jC body)
  ·exact fin _ (.refl c)
theorem wQ{c:Ck}(h:fa c){k:Nat}(hk:k<c.aa.ap.length)(hsz:c.aM.length<6):fa (ff c k)/\(ff c k).aa=c.aa/\(ff c k).aM.length=c.aM.length+1:=by
 have hp3:=(h.aa.fn _ (dx hk)).2;have hi0:bv { c with fn:=(k:Int),vars:=[],more:=[],size:=0 }:=⟨h.aa,h.types,h.slots,h.ap,by show c.aM.length<=6;omega,by show(0:Int)<=k;omega,by show(k:Int)<(c.aa.ap.length:Int);omega,by show((0:Nat):Int)<=0;omega,by show(0:Int)<=25;omega,fun _=>by show(0:Int)<=24;omega⟩;obtain⟨a,b,d⟩:=wi (nth c.aa.ap k).body (nth c.aa.ap k).params _ 0 hi0 (by show(0:Int)+_<=20;omega);unfold ff;simp only;split
 ·have s:=(oz (fun q b hq he=>kK c.aa.nodes.length q b hq he) a (nth c.aa.ap k).body).1
  have hi:=s.inv;refine⟨⟨hi.aa,hi.types,hi.slots,hi.ap⟩,s.aa.trans b,?_⟩;show((dR (bu c.aa.nodes.length) _ _).aM++[_]).length=_;rw[List.length_append,s.aM,d];rfl
 ·refine⟨⟨a.aa,a.types,a.slots,a.ap⟩,b,?_⟩
  show((dD _ _ _ _).aM++[_]).length=_;rw[List.length_append,d];rfl
def mC(t:ax)(n:Nat):Ck:=⟨t,(t.nodes.take n).map fun _=>0,(t.nodes.take n).map fun _=>-1,(t.nodes.take n).map fun _=>0,[],0,[],[],0,0,0⟩
variable{n:Nat}
theorem K6(t:ax)(h:t.nodes.length<=n):mC t n=iY t:=by simp[mC,iY,List.take_of_length_le h]
theorem Ov(t:ax)(h:n<t.nodes.length):mC t (n+1)={ mC t n with types:=(mC t n).types++[0],slots:=(mC t n).slots++[-1],ap:=(mC t n).ap++[0] }:=by
 simp[mC,Hf h]
theorem Mf(t:ax)(h:n<=t.nodes.length):(mC t n).types.length=n/\(mC t n).slots.length=n/\(mC t n).ap.length=n:=by
 simp[mC];omega
@[go_sem] theorem jzi(t:ax)(l:List AV):k8 t++l=bt er 5 t.nodes::bt fU 5 t.ap::l:=rfl
theorem Oq(t:ax)(h:aH t):dV prog 54 [.agg (k8 t)] (.bg [.agg (fB (gC t).1),rI (gC t).2.1,rI (gC t).2.2]):=by
 have hf:=h.ap;have hm:=h.many;refine eQ func54 ntmps54 ?_
 (repeat' (first|refine aA fun K hK=>?_|refine aC ?_|(refine hK _ _ ?_;clear hK K)|(refine aB ?_ ?_<;>intro hc<;>try exact jz)|refine bx 10 ?_|refine al 11 ?_|refine bx 0 ?_|refine az ?_|exact jI|(clear hK K)))
 have hKo:=hK;clear hK;refine iS (dz.fH 1 0 2 3 1 rfl jC rfl rfl) ?_
 (refine S ?_;try exact jI)
 refine iS (dz.fH 2 0 3 3 1 rfl jC rfl rfl) ?_
 (refine S ?_;try exact jI)
 refine iS (dz.fH 3 0 4 3 1 rfl jC rfl rfl) ?_
 (refine S ?_;try exact jI)
 refine iS (dz.fH 4 0 5 3 1 rfl jC rfl rfl) ?_
 (refine S ?_;try exact jI)
 refine iS (dz.sc 0 7 rfl) ?_
 (refine S ?_;try exact jI)
 refine iS (dz.perm (mY (mC t 0)++[(10,.var 27 (k8 t)),(11,.var 29 [.raw (.slice none 0 0),.raw (.slice none 0 0),.raw (.slice none 0 0),.raw (.slice none 0 0),.raw (.slice none 0 0),.raw (.slice none 0 0)])]) (fun i=>by simp only[go_sem,aD,mC];(repeat' split)<;>first|rfl|omega)) ?_;refine fm (S:=Nat) [(6,1),(12,40)] (fun k=>k<=t.nodes.length) (fun k=>[(6,rI k)]) (fun k=>⟨[],mY (mC t k)++[(10,.var 27 (k8 t)),(11,.var 29 [.raw (.slice none 0 0),.raw (.slice none 0 0),.raw (.slice none 0 0),.raw (.slice none 0 0),.raw (.slice none 0 0),.raw (.slice none 0 0)])]⟩) (fun k=>t.nodes.length-k) 0 (Nat.zero_le _) (fi rfl cX) ?_;rintro k hk Kr hKr;obtain⟨l1,l2,l3⟩:=Mf t hk
 (refine S ?_;try exact jI)
 by_cases hlt:k<t.nodes.length
 ·(repeat' (first|refine aA fun K hK=>?_|refine aC ?_|(refine hK _ _ ?_;clear hK K)|(refine aB ?_ ?_<;>intro hc<;>try exact jz)|refine az ?_|exact jI|(clear hK K)))
  refine hKr _ _ (fw (k+1) jB jB (by rw[Ov t hlt];exact iW) cX)
 ·have hall:=K6 t (n:=k) jB
  rw[hall]at*;have hh:=HL (iY t) hf
  (repeat' (first|refine aA fun K hK=>?_|refine aC ?_|(refine hK _ _ ?_;clear hK K)|(refine aB ?_ ?_<;>intro hc<;>try exact jz)|refine hKo _ _ ?_|refine cm (hh) ?_|refine az ?_|exact jI|(clear hK K)))
  have hKo2:=hK;clear hK;have eh:=Hx (iY t);have hi0:fa (iN (iY t)):=⟨by rw[eh.aa];exact h,by rw[eh.types,eh.aa];simp[iY],by rw[eh.slots,eh.aa];simp[iY],by rw[eh.ap,eh.aa];simp[iY]⟩;refine fm (S:=Nat×Ck) [(7,1),(54,17)] (fun s=>s.1<=t.ap.length/\fa s.2/\s.2.aa=t/\s.2.aM.length=s.1/\fj s.2 s.1 (t.ap.length-s.1)=gU t) (fun s=>[(7,rI s.1)]) (fun s=>⟨[],mY s.2++[(10,.var 27 (k8 t)),(11,.var 29 [.raw (.slice none 0 0),.raw (.slice none 0 0),.raw (.slice none 0 0),.raw (.slice none 0 0),.raw (.slice none 0 0),.raw (.slice none 0 0)])]⟩) (fun s=>t.ap.length-s.1) (0,iN (iY t)) ⟨Nat.zero_le _,hi0,eh.aa,by rw[eh.aM];rfl,rfl⟩ (fi iW cX) ?_;rintro⟨i,q⟩ ⟨hi,hq,hqt,hqz,hA⟩ Kr2 hKr2;simp only at hi hq hqt hqz hA
  (refine S ?_;try exact jI)
  by_cases hgo:i<t.ap.length/\q.e=0
  ·obtain⟨hg1,hg2⟩:=hgo
   rw[show t.ap.length-i=(t.ap.length-(i+1))+1 from jB,fj,if_pos hg2]at hA;have hkf:i<q.aa.ap.length:=by rw[hqt];exact hg1
   have hfc:=Pn q i hq hkf jB;obtain⟨f1,f2,f3⟩:=wQ hq hkf jB
   (have W:=hg2;repeat' (first|refine aA fun K hK=>?_|refine aC ?_|(refine hK _ _ ?_;clear hK K)|(refine aB ?_ ?_<;>intro hc<;>try exact jz)|refine cm (hfc) ?_|refine az ?_|exact jI|(clear hK K)));all_goals(try clear W)
   refine hKr2 _ _ (fw (i+1,ff q i) ⟨jJ,f1,f2.trans hqt,jJ,hA⟩ jJ iW cX)
  ·have hz:q=gU t:=by
    rw[<-hA];by_cases hg1:i<t.ap.length
    ·rw[show t.ap.length-i=(t.ap.length-(i+1))+1 from jB,fj,if_neg fun e=>hgo ⟨hg1,e⟩]
    ·rw[show t.ap.length-i=0 from jB,fj]
   by_cases he:q.e=0
   ·have hr:gC t=(q.prog,0,0):=by unfold gC;rw[<-hz,if_neg (fun h=>h he)]
    have hlen:¬i<t.ap.length:=fun h=>hgo ⟨h,he⟩
    (have W:=he;repeat' (first|refine aA fun K hK=>?_|refine aC ?_|(refine hK _ _ ?_;clear hK K)|(refine aB ?_ ?_<;>intro hc<;>try exact jz)|(refine hKo2 _ _ ?_)|refine az ?_|exact jI|(clear hK K)));all_goals(try clear W)
    rw[hr];refine lG [.cell 2 29,.tmp 3,.tmp 4] ?_;refine bZ.bg (ds:=[.agg (fB q.prog),rI 0,rI 0]) ?_;refine jA (bZ.agg (ds:=fB q.prog) ?_) (jA (.same _ rfl) (jA (.same _ rfl) trivial));simp only[fB,Ck.prog];exact kY
   ·have hr:gC t=(kR,q.at_,q.e):=by unfold gC;rw[<-hz,if_pos he]
    (have W:=he;repeat' (first|refine aA fun K hK=>?_|refine aC ?_|(with_reducible refine gR 14 ?_);refine dA 14 [11] [0,1,2,3,4,5,6,7,8,9,10,11] mixed ?_|(refine hK _ _ ?_;clear hK K)|(refine aB ?_ ?_<;>intro hc<;>try exact jz)|(refine hKo2 _ _ ?_)|refine az ?_|exact jI|(clear hK K)));all_goals(try clear W)
    rw[hr];refine lG [.cell 2 29,.tmp 3,.tmp 4] ?_;refine bZ.bg (ds:=[.agg (fB kR),rI _,rI _]) ?_;refine jA (bZ.agg (ds:=fB kR) ?_) (jA (.same _ rfl) (jA (.same _ rfl) trivial));simp only[fB,kR];exact kY
end Go.Proofs.YtfkgcobaheegbaaGreatDoor

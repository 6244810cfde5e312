/- Lemmas. No conditions. -/
import Derived.Test.YtfkgcobaheegbaaGreatDoorCkF
set_option linter.all false
set_option maxHeartbeats 8000000
set_option maxRecDepth 10000
namespace Go.Proofs.YtfkgcobaheegbaaGreatDoor
open Go Go.Gd Tryz
attribute [go_sem] AN List.length_drop
theorem Rf(n:Nat)(hx:ub n)(c:Ck)(a:Int)(h:bu c)(he:c.e=0)(h0:0<=a)(h1:a<c.aa.nodes.length)(hn:a.toNat<=n)(hk:(c.node a).kind=10):aj prog 250 [pR,rI a] (fC c) (fun v l=>v=.bj []/\l=fC (oB (ar n) c a)):=by
 obtain⟨sh,hkid⟩:=ut h h0 h1;obtain⟨x,hl,hxe⟩:=sh.right jB;have hl':(nth c.aa.nodes a.toNat).l.length=1:=by
  have:(c.node a).l.length=1:=by rw[hl];rfl
  exact this
 have hkx:c.ay a 0=x:=by unfold Ck.ay;rw[hl];rfl
 have hm:=hkid x (by rw[hl];simp);have hex:=hx c (c.ay a 0) h jB jB jB (by rw[hkx];exact hxe);have hmust:aj prog 253 _ _ (fun v l=>v=.bj []/\l=fC (gr (ar n) c a)):=oz (ar n c (c.ay a 0)).1 (!decide ((ar n c (c.ay a 0)).2=0)) a;have eA:=yi (dw n) c a;have eB:=Bj (dw n) c a;have eC:=wQ (dw n) c a;have hA:=h.ev eA;have hC:=h.ev eC;have hfind:=BL (gr (ar n) c a) (c.node a).name hA;have hfa:=sj (gr (ar n) c a) 41 a;have hfb:=sj (iR (ar n) c a) 4 a;have hsl:=hC.slots;have hcz:=hC.size;have hcv:=hC.vars;have hcc:=eC.size;have hc24:=h.room he;rw[eC.aa]at hsl;rw[sc];refine aT func250 ntmps250 ?_
 (refine S ?_;try exact jI)
 by_cases c1:0<=(gr (ar n) c a).find (c.node a).name
 ·have e1:iR (ar n) c a=(gr (ar n) c a).aF 41 a:=if_pos c1;rw[<-e1]at hfa;by_cases c2:24<=(iR (ar n) c a).size
  ·have e2:dz (ar n) c a=(iR (ar n) c a).aF 4 a:=if_pos c2;rw[<-e2]at hfb
   (repeat' (first|refine aB fun K hK=>?_|refine aC ?_|(with_reducible refine gR 7 ?_);refine dE 7 [0,1,2,3,4,5,6,7,8,9,10,11] mixed ?_|(with_reducible refine gR 8 ?_);refine dE 8 [0,1,2,3,4,5,6,7,8,9,10,11,12,13,14,15,16,17] mixed ?_|(refine hK _ _ ?_;clear hK K)|(refine aA ?_ ?_<;>intro hc<;>try exact jz)|refine cm (hex) ?_|refine cm (hmust) ?_|refine cm (hfind) ?_|refine cm (hfa) ?_|refine cm (hfb) ?_|refine qN (dz (ar n) c a).vars (dz (ar n) c a).more [⟨(c.node a).name,(ar n c (c.ay a 0)).2,(dz (ar n) c a).size⟩] ?_|refine aD ?_|exact jI|(clear hK K)))
   (refine bH [] ?_;try simp only[go_sem])
  ·have e2:dz (ar n) c a=iR (ar n) c a:=if_neg c2;rw[e2]at hsl hcz hcv hcc;rw[e2]
   (repeat' (first|refine aB fun K hK=>?_|refine aC ?_|(with_reducible refine gR 7 ?_);refine dE 7 [0,1,2,3,4,5,6,7,8,9,10,11] mixed ?_|(with_reducible refine gR 8 ?_);refine dE 8 [0,1,2,3,4,5,6,7,8,9,10,11,12,13,14,15,16,17] mixed ?_|(refine hK _ _ ?_;clear hK K)|(refine aA ?_ ?_<;>intro hc<;>try exact jz)|refine cm (hex) ?_|refine cm (hmust) ?_|refine cm (hfind) ?_|refine cm (hfa) ?_|refine qN (iR (ar n) c a).vars (iR (ar n) c a).more [⟨(c.node a).name,(ar n c (c.ay a 0)).2,(iR (ar n) c a).size⟩] ?_|refine aD ?_|exact jI|(clear hK K)))
   (refine bH [] ?_;try simp only[go_sem])
 ·have e1:iR (ar n) c a=gr (ar n) c a:=if_neg c1;rw[e1]at hfb;by_cases c2:24<=(gr (ar n) c a).size
  ·have e2:dz (ar n) c a=(gr (ar n) c a).aF 4 a:=by unfold dz;rw[e1];exact if_pos c2
   rw[<-e2]at hfb
   (repeat' (first|refine aB fun K hK=>?_|refine aC ?_|(with_reducible refine gR 7 ?_);refine dE 7 [0,1,2,3,4,5,6,7,8,9,10,11] mixed ?_|(with_reducible refine gR 8 ?_);refine dE 8 [0,1,2,3,4,5,6,7,8,9,10,11,12,13,14,15,16,17] mixed ?_|(refine hK _ _ ?_;clear hK K)|(refine aA ?_ ?_<;>intro hc<;>try exact jz)|refine cm (hex) ?_|refine cm (hmust) ?_|refine cm (hfind) ?_|refine cm (hfb) ?_|refine qN (dz (ar n) c a).vars (dz (ar n) c a).more [⟨(c.node a).name,(ar n c (c.ay a 0)).2,(dz (ar n) c a).size⟩] ?_|refine aD ?_|exact jI|(clear hK K)))
   (refine bH [] ?_;try simp only[go_sem])
  ·have e2:dz (ar n) c a=gr (ar n) c a:=by unfold dz;rw[e1];exact if_neg c2
   rw[e2]at hsl hcz hcv hcc;rw[e2]
   (repeat' (first|refine aB fun K hK=>?_|refine aC ?_|(with_reducible refine gR 7 ?_);refine dE 7 [0,1,2,3,4,5,6,7,8,9,10,11] mixed ?_|(with_reducible refine gR 8 ?_);refine dE 8 [0,1,2,3,4,5,6,7,8,9,10,11,12,13,14,15,16,17] mixed ?_|(refine hK _ _ ?_;clear hK K)|(refine aA ?_ ?_<;>intro hc<;>try exact jz)|refine cm (hex) ?_|refine cm (hmust) ?_|refine cm (hfind) ?_|refine qN (gr (ar n) c a).vars (gr (ar n) c a).more [⟨(c.node a).name,(ar n c (c.ay a 0)).2,(gr (ar n) c a).size⟩] ?_|refine aD ?_|exact jI|(clear hK K)))
   (refine bH [] ?_;try simp only[go_sem])
theorem FK(n:Nat)(hs:Am n):Iu n:=by
 intro c a h h0 h1 hn hk;obtain⟨sh,hkid⟩:=ut h h0 h1;have hlen:(nth c.aa.nodes a.toNat).l.length<=300:=yw h h0 h1;have e0:=pw c a;have hq0:=h.ev e0;have hfl:=h.ao;have hvz:=h.vars;have hsz:=h.size;refine aT func152 ntmps152 ?_
 (refine S ?_;try exact jI)
 (repeat' (first|refine aB fun K hK=>?_|refine aC ?_|(with_reducible refine gR 0 ?_);refine dE 0 [0,1,2,3,4,5,6,7,8,9,10,11] mixed ?_|(refine hK _ _ ?_;clear hK K)|(refine aA ?_ ?_<;>intro hc<;>try exact jz)|refine aD ?_|exact jI|(clear hK K)))
 have hKo:=hK;clear hK;refine fi (S:=Nat×Ck) [(6,1),(33,19)] (fun s=>s.1<=(c.node a).l.length/\Sv (c.ac a) s.2/\de (bv n) s.2 ((c.node a).l.drop s.1)=de (bv n) (c.ac a) (c.node a).l) (fun s=>[(6,rI s.1)]) (fun s=>⟨[0,1,2,3,4,5],fC s.2⟩) (fun s=>(c.node a).l.length-s.1) (0,c.ac a) ⟨jJ,.refl hq0,rfl⟩ (fj jr cQ) ?_;rintro⟨i,q⟩ ⟨hi,hq,hA⟩ Kr hKr;simp only at hi hq hA
 (refine S ?_;try exact jI)
 have lt1:=hq.inv.types;have lt3:=hq.inv.ao;have lt4:=hq.inv.vars;have lt5:=hq.inv.size;by_cases hgo:i<(c.node a).l.length/\q.e=0
 ·obtain⟨hg1,hg2⟩:=hgo;have hg1':i<(nth c.aa.nodes a.toNat).l.length:=hg1;rw[lj hg1,de,if_pos hg2]at hA;have hm:nth (c.node a).l i∈(c.node a).l:=dT hg1;have hb:=hkid _ hm;have hst:=hs q (nth (c.node a).l i) hq.inv hg2 hb.1 (by rw[hq.aa];show _<(c.aa.nodes.length:Int);omega) jB (by
   have:q.node (nth (c.node a).l i)=c.node (nth (c.node a).l i):=by unfold Ck.node;rw[hq.aa];rfl
   rw[this];exact sh.block hk _ hm)
  (have W:=hg2;repeat' (first|refine aB fun K hK=>?_|refine aC ?_|(refine hK _ _ ?_;clear hK K)|(refine aA ?_ ?_<;>intro hc<;>try exact jz)|refine cm (hst) ?_|refine aD ?_|exact jI|(clear hK K)));all_goals(try clear W)
  refine hKr _ _ (fw (i+1,bv n q (nth (c.node a).l i)) ⟨jJ,hq.trans (kY n q _ hq.inv hg2),hA⟩ jJ jr cQ)
 ·have hz:q=de (bv n) (c.ac a) (c.node a).l:=by
   by_cases hg1:i<(c.node a).l.length
   ·rw[lj hg1,de,if_neg fun e=>hgo ⟨hg1,e⟩]at hA;exact hA
   ·rw[List.drop_eq_nil_of_le jB,de]at hA;exact hA
  have e1:dZ (bv n) c a={ q with vars:=q.vars.take (min c.vars.length q.vars.length),more:=q.vars.drop (min c.vars.length q.vars.length)++q.more }:=by unfold dZ;rw[<-hz]
  obtain⟨u,hu⟩:=hq.pre;have hu:q.vars=c.vars++u:=hu;have hmin:min c.vars.length q.vars.length=c.vars.length:=by rw[hu];simp
  have hgo':¬(i<(nth c.aa.nodes a.toNat).l.length/\q.e=0):=hgo
  (repeat' (first|refine aB fun K hK=>?_|refine aC ?_|(with_reducible refine gR 7 ?_);refine dE 7 [0,1,2,3,4,5,6,7,8,9,10,11,12,13,14,15] mixed ?_|(refine hK _ _ ?_;clear hK K)|(refine aA ?_ ?_<;>intro hc<;>try exact jz)|refine hKo _ _ ?_|refine aD ?_|exact jI|(clear hK K)))
  all_goals first|(exact absurd ⟨by have:=hc.1;omega,hc.2⟩ hgo')|skip
  have ht:q.vars.take c.vars.length=c.vars:=by rw[hu,List.take_left' rfl]
  have hd:q.vars.drop c.vars.length=u:=by rw[hu,List.drop_left' rfl]
  rw[e1,hmin,ht,hd]
  (refine bW [] ?_ ?_<;>(try simp only[go_sem]))
  simp only[hu,List.map_append,List.append_assoc,List.length_append,Nat.add_assoc];rw[jN,Int.toNat_natCast]
theorem P4(n:Nat)(hx:ub n)(c:Ck)(a:Int)(h:bu c)(h0:0<=a)(h1:a<c.aa.nodes.length)(hn:a.toNat<=n)(hk:(c.node a).kind=17):aj prog 254 [pR,rI a] (fC c) (fun v l=>v=.bj []/\l=fC (jZ (ar n) c a)):=by
 obtain⟨sh,hkid⟩:=ut h h0 h1;have hfn:=h.uQ;have hfh:=h.uC;have hlen:(nth c.aa.nodes a.toNat).l.length<=300:=yw h h0 h1;have hfail:=sj c 43 a;have hcast:decide (((c.node a).l.length:Int)=1)=decide ((c.node a).l.length=1):=by rw[decide_eq_decide];omega
 by_cases b:decide ((c.node a).l.length=1)≠(!decide ((nth c.aa.ao c.fn.toNat).ret=0))
 ·have e1:jZ (ar n) c a=c.aF 43 a:=if_pos b;have hb:(decide (((nth c.aa.nodes a.toNat).l.length:Int)=1) == !decide ((nth c.aa.ao c.fn.toNat).ret=0))=false:=by
   rw[show((nth c.aa.nodes a.toNat).l.length)=(c.node a).l.length from rfl,hcast];simpa using b
  rw[e1];refine aT func254 ntmps254 ?_
  (refine S ?_;try exact jI)
  (have W:=hb;repeat' (first|refine aB fun K hK=>?_|refine aC ?_|(with_reducible refine gR 1 ?_);refine dE 1 [0,1,2,3,4,5,6,7,8,9,10,11,12,13] mixed ?_|(refine hK _ _ ?_;clear hK K)|(refine aA ?_ ?_<;>intro hc<;>try exact jz)|refine cm (hfail) ?_|refine aD ?_|exact jI|(clear hK K)));all_goals(try clear W)
  (refine bH [] ?_;try simp only[go_sem])
 ·have hb:(decide (((nth c.aa.nodes a.toNat).l.length:Int)=1) == !decide ((nth c.aa.ao c.fn.toNat).ret=0))=true:=by
   rw[show((nth c.aa.nodes a.toNat).l.length)=(c.node a).l.length from rfl,hcast];rw[Classical.not_not.1 b];exact beq_self_eq_true _
  by_cases hl:(c.node a).l.length=1
  ·have hl':(nth c.aa.nodes a.toNat).l.length=1:=hl;have e1:jZ (ar n) c a=(ar n c (c.ay a 0)).1.ap (decide ((ar n c (c.ay a 0)).2=(nth c.aa.ao c.fn.toNat).ret)) a:=by unfold jZ;simp only;rw[if_neg b,if_pos hl]
   rcases sh.ret hk with h2|⟨x,h2,h3⟩
   ·rw[h2]at hl;cases hl
   have hkx:c.ay a 0=x:=by unfold Ck.ay;rw[h2];rfl
   have hm:=hkid x (by rw[h2];simp);have hex:=hx c (c.ay a 0) h jB jB jB (by rw[hkx];exact .inl h3);have hmust:=oz (ar n c (c.ay a 0)).1 (decide ((ar n c (c.ay a 0)).2=(nth c.aa.ao c.fn.toNat).ret)) a;rw[e1];refine aT func254 ntmps254 ?_
   (refine S ?_;try exact jI)
   (have W:=hb;repeat' (first|refine aB fun K hK=>?_|refine aC ?_|(with_reducible refine gR 1 ?_);refine dE 1 [0,1,2,3,4,5,6,7,8,9,10,11,12,13] mixed ?_|(refine hK _ _ ?_;clear hK K)|(refine aA ?_ ?_<;>intro hc<;>try exact jz)|refine cm (hex) ?_|refine cm (hmust) ?_|refine aD ?_|exact jI|(clear hK K)));all_goals(try clear W)
   (refine bH [] ?_;try simp only[go_sem])
  ·have hl':¬(nth c.aa.nodes a.toNat).l.length=1:=hl;have e1:jZ (ar n) c a=c:=by unfold jZ;simp only;rw[if_neg b,if_neg hl]
   rw[e1];refine aT func254 ntmps254 ?_
   (refine S ?_;try exact jI)
   (have W:=hb;repeat' (first|refine aB fun K hK=>?_|refine aC ?_|(with_reducible refine gR 1 ?_);refine dE 1 [0,1,2,3,4,5,6,7,8,9,10,11,12,13] mixed ?_|(refine hK _ _ ?_;clear hK K)|(refine aA ?_ ?_<;>intro hc<;>try exact jz)|refine aD ?_|exact jI|(clear hK K)));all_goals(try clear W)
   (refine bH [] ?_;try simp only[go_sem])
def NB(n:Nat):Prop:=∀(c:Ck) (a:Int),bu c->c.e=0->0<=a->a<c.aa.nodes.length->a.toNat<=n->(c.node a).kind=10->aj prog 250 [pR,rI a] (fC c) (fun v l=>v=.bj []/\l=fC (oB (ar n) c a))
def Qn(n:Nat):Prop:=∀(c:Ck) (a:Int),bu c->0<=a->a<c.aa.nodes.length->a.toNat<=n->(c.node a).kind=17->aj prog 254 [pR,rI a] (fC c) (fun v l=>v=.bj []/\l=fC (jZ (ar n) c a))
theorem LY(n:Nat)(hx:ub n)(hl:NB n)(hr:Qn n)(hbl:Iu n):Am (n+1):=by
 intro c a h he h0 h1 hn hk;have ev:=pw c a;have hq:=h.ev ev;obtain⟨sh,hkid⟩:=ut h h0 h1;have hlen:(nth c.aa.nodes a.toNat).l.length<=300:=yw h h0 h1;have hfl:=h.ao;have hvz:=h.vars;have hsz:=h.size;have hmem:∀i,i<(c.node a).l.length->(c.ay a i).toNat<n/\0<=c.ay a i/\c.ay a i<c.aa.nodes.length:=fun i hi=>by have hm:c.ay a i∈(c.node a).l:=dT hi;have:=hkid _ hm;omega
 have en:=mG (c.ac a) a;have hqn:=hq.ev en;have hnm:=Ip (c.ac a) a hq h0 h1;have e17:(c.node a).kind=10\/(c.node a).kind=11\/(c.node a).kind=12\/(c.node a).kind=13\/(c.node a).kind=14\/(c.node a).kind=17\/((c.node a).kind=15\/(c.node a).kind=16):=by unfold dL at hk;omega
 rcases e17 with k|k|k|k|k|k|k
 ·have hk':(nth c.aa.nodes a.toNat).kind=10:=k;have k0:((c.ac a).node a).kind=10:=k;have hlc:=hl (c.ac a) a hq he h0 h1 jB k0;rw[show bv (n+1) c a=oB (ar n) (c.ac a) a from by unfold bv;simp only;rw[k0];rfl];refine aT func216 ntmps216 ?_
  (refine S ?_;try exact jI)
  (have W:=hk';repeat' (first|refine aB fun K hK=>?_|refine aC ?_|(with_reducible refine gR 1 ?_);refine dE 1 [0,1,2,3,4,5,6,7,8,9,10,11] mixed ?_|(refine hK _ _ ?_;clear hK K)|(refine aA ?_ ?_<;>intro hc<;>try exact jz)|refine cm (hlc) ?_|refine aD ?_|exact jI|(clear hK K)));all_goals(try clear W)
  (refine bH [] ?_;try simp only[go_sem])
 ·have hk':(nth c.aa.nodes a.toNat).kind=11:=k;have k0:((c.ac a).node a).kind=11:=k;obtain⟨x,hl0,hx0⟩:=sh.right jB;have hl1:(c.node a).l.length=1:=by rw[hl0];rfl
  have hl':(nth c.aa.nodes a.toNat).l.length=1:=hl1;obtain⟨g0a,g0b,g0c⟩:=hmem 0 jB;have hk0:c.ay a 0=x:=by unfold Ck.ay;rw[hl0];rfl
  have hex:=hx ((c.ac a).named a).1 (c.ay a 0) hqn g0b (by rw[en.aa];exact g0c) g0a (by rw[en.node];show dW (c.node (c.ay a 0)).kind;rw[hk0];exact hx0);have hmust:=oz (ar n ((c.ac a).named a).1 (c.ay a 0)).1 (decide (((c.ac a).named a).2=(ar n ((c.ac a).named a).1 (c.ay a 0)).2)) a;rw[show bv (n+1) c a=(ar n ((c.ac a).named a).1 (c.ay a 0)).1.ap (decide (((c.ac a).named a).2=(ar n ((c.ac a).named a).1 (c.ay a 0)).2)) a from by unfold bv;simp only;rw[k0];rfl];refine aT func216 ntmps216 ?_
  (refine S ?_;try exact jI)
  (have W:=hk';repeat' (first|refine aB fun K hK=>?_|refine aC ?_|(with_reducible refine gR 1 ?_);refine dE 1 [0,1,2,3,4,5,6,7,8,9,10,11] mixed ?_|(refine hK _ _ ?_;clear hK K)|(refine aA ?_ ?_<;>intro hc<;>try exact jz)|refine cm (hnm) ?_|refine cm (hex) ?_|refine cm (hmust) ?_|refine aD ?_|exact jI|(clear hK K)));all_goals(try clear W)
  (refine bH [] ?_;try simp only[go_sem])
 ·have hk':(nth c.aa.nodes a.toNat).kind=12:=k;have k0:((c.ac a).node a).kind=12:=k;obtain⟨x,y,hl0,hx0,hx1⟩:=sh.two jB;have hl1:(c.node a).l.length=2:=by rw[hl0];rfl
  have hl':(nth c.aa.nodes a.toNat).l.length=2:=hl1;obtain⟨g0a,g0b,g0c⟩:=hmem 0 jB;have hk0:c.ay a 0=x:=by unfold Ck.ay;rw[hl0];rfl
  obtain⟨g1a,g1b,g1c⟩:=hmem 1 jB;have hk1:c.ay a 1=y:=by unfold Ck.ay;rw[hl0];rfl
  have ex1:=dw n ((c.ac a).named a).1 (c.ay a 0);have hex:=hx ((c.ac a).named a).1 (c.ay a 0) hqn g0b (by rw[en.aa];exact g0c) g0a (by rw[en.node];show dW (c.node (c.ay a 0)).kind;rw[hk0];exact .inl hx0);have hey:=hx (ar n ((c.ac a).named a).1 (c.ay a 0)).1 (c.ay a 1) (hqn.ev ex1) g1b (by rw[ex1.aa,en.aa];exact g1c) g1a (by rw[ex1.node,en.node];show dW (c.node (c.ay a 1)).kind;rw[hk1];exact .inl hx1);have hmust:=oz (ar n (ar n ((c.ac a).named a).1 (c.ay a 0)).1 (c.ay a 1)).1 (decide (((c.ac a).named a).2=4) && decide ((ar n ((c.ac a).named a).1 (c.ay a 0)).2=1) && decide ((ar n (ar n ((c.ac a).named a).1 (c.ay a 0)).1 (c.ay a 1)).2=1)) a;rw[show bv (n+1) c a=(ar n (ar n ((c.ac a).named a).1 (c.ay a 0)).1 (c.ay a 1)).1.ap (decide (((c.ac a).named a).2=4) && decide ((ar n ((c.ac a).named a).1 (c.ay a 0)).2=1) && decide ((ar n (ar n ((c.ac a).named a).1 (c.ay a 0)).1 (c.ay a 1)).2=1)) a from by unfold bv;simp only;rw[k0];rfl];refine aT func216 ntmps216 ?_
  (refine S ?_;try exact jI)
  (have W:=hk';repeat' (first|refine aB fun K hK=>?_|refine aC ?_|(with_reducible refine gR 1 ?_);refine dE 1 [0,1,2,3,4,5,6,7,8,9,10,11] mixed ?_|(refine hK _ _ ?_;clear hK K)|(refine aA ?_ ?_<;>intro hc<;>try exact jz)|refine cm (hnm) ?_|refine cm (hex) ?_|refine cm (hey) ?_|refine cm (hmust) ?_|refine aD ?_|exact jI|(clear hK K)));all_goals(try clear W)
  (refine bH [] ?_;try simp only[go_sem])
 ·have hk':(nth c.aa.nodes a.toNat).kind=13:=k;have k0:((c.ac a).node a).kind=13:=k;obtain⟨x,hl0,hx0⟩:=sh.nL jB;have hl1:(c.node a).l.length=1:=by rw[hl0];rfl
  have hl':(nth c.aa.nodes a.toNat).l.length=1:=hl1;obtain⟨g0a,g0b,g0c⟩:=hmem 0 jB;have hk0:c.ay a 0=x:=by unfold Ck.ay;rw[hl0];rfl
  have hex:=hx (c.ac a) (c.ay a 0) hq g0b g0c g0a (by show dW (c.node (c.ay a 0)).kind;rw[hk0];exact .inr (.inr (.inr hx0)));rw[show bv (n+1) c a=(ar n (c.ac a) (c.ay a 0)).1 from by unfold bv;simp only;rw[k0];rfl];refine aT func216 ntmps216 ?_
  (refine S ?_;try exact jI)
  (have W:=hk';repeat' (first|refine aB fun K hK=>?_|refine aC ?_|(with_reducible refine gR 1 ?_);refine dE 1 [0,1,2,3,4,5,6,7,8,9,10,11] mixed ?_|(refine hK _ _ ?_;clear hK K)|(refine aA ?_ ?_<;>intro hc<;>try exact jz)|refine cm (hex) ?_|refine aD ?_|exact jI|(clear hK K)));all_goals(try clear W)
  (refine bH [] ?_;try simp only[go_sem])
 ·have hk':(nth c.aa.nodes a.toNat).kind=14:=k;have k0:((c.ac a).node a).kind=14:=k;obtain⟨x,hl0,hx0⟩:=sh.one jB;have hl1:(c.node a).l.length=1:=by rw[hl0];rfl
  have hl':(nth c.aa.nodes a.toNat).l.length=1:=hl1;obtain⟨g0a,g0b,g0c⟩:=hmem 0 jB;have hk0:c.ay a 0=x:=by unfold Ck.ay;rw[hl0];rfl
  have hex:=hx (c.ac a) (c.ay a 0) hq g0b g0c g0a (by show dW (c.node (c.ay a 0)).kind;rw[hk0];exact .inl hx0);have hmust:=oz (ar n (c.ac a) (c.ay a 0)).1 (!decide ((ar n (c.ac a) (c.ay a 0)).2=4)) a;rw[show bv (n+1) c a=(ar n (c.ac a) (c.ay a 0)).1.ap (!decide ((ar n (c.ac a) (c.ay a 0)).2=4)) a from by unfold bv;simp only;rw[k0];rfl];refine aT func216 ntmps216 ?_
  (refine S ?_;try exact jI)
  (have W:=hk';repeat' (first|refine aB fun K hK=>?_|refine aC ?_|(with_reducible refine gR 1 ?_);refine dE 1 [0,1,2,3,4,5,6,7,8,9,10,11] mixed ?_|(refine hK _ _ ?_;clear hK K)|(refine aA ?_ ?_<;>intro hc<;>try exact jz)|refine cm (hex) ?_|refine cm (hmust) ?_|refine aD ?_|exact jI|(clear hK K)));all_goals(try clear W)
  (refine bH [] ?_;try simp only[go_sem])
 ·have hk':(nth c.aa.nodes a.toNat).kind=17:=k;have k0:((c.ac a).node a).kind=17:=k;have hrc:=hr (c.ac a) a hq h0 h1 jB k0;rw[show bv (n+1) c a=jZ (ar n) (c.ac a) a from by unfold bv;simp only;rw[k0];rfl];refine aT func216 ntmps216 ?_
  (refine S ?_;try exact jI)
  (have W:=hk';repeat' (first|refine aB fun K hK=>?_|refine aC ?_|(with_reducible refine gR 1 ?_);refine dE 1 [0,1,2,3,4,5,6,7,8,9,10,11] mixed ?_|(refine hK _ _ ?_;clear hK K)|(refine aA ?_ ?_<;>intro hc<;>try exact jz)|refine cm (hrc) ?_|refine aD ?_|exact jI|(clear hK K)));all_goals(try clear W)
  (refine bH [] ?_;try simp only[go_sem])
 ·have hall:1<=(c.node a).l.length/\bQ (c.node (c.ay a 0)).kind/\∀i,i<(c.node a).l.length->1<=i->(c.node (nth (c.node a).l i)).kind=18:=by
   have fin:∀{x y:Int},(c.node a).l=[x,y]->bQ (bt c.aa.nodes x)->bt c.aa.nodes y=18->1<=(c.node a).l.length/\bQ (c.node (c.ay a 0)).kind/\∀i,i<(c.node a).l.length->1<=i->(c.node (nth (c.node a).l i)).kind=18:=fun{x y} e hx hy=>by
    refine⟨by rw[e];simp,by have:c.ay a 0=x:=(by unfold Ck.ay;rw[e];rfl);rw[this];exact hx,fun i hi h1=>?_⟩;rw[e]at hi ⊢;obtain rfl:i=1:=by simp at hi;omega
    exact hy
   rcases k with k|k
   ·obtain⟨x,y,hxe,hye,hl0⟩:=sh.kz k;rcases hl0 with hl0|⟨d,hl0,hd⟩
    ·exact fin hl0 hxe hye
    ·refine⟨by rw[hl0];simp,by have:c.ay a 0=x:=(by unfold Ck.ay;rw[hl0];rfl);rw[this];exact hxe,fun i hi h1=>?_⟩;rw[hl0]at hi ⊢;rcases(show i=1\/i=2 by simp at hi;omega)with rfl|rfl
     ·exact hye
     ·exact hd
   ·obtain⟨x,y,hl0,hxe,hye⟩:=sh.dS k;exact fin hl0 hxe hye
  obtain⟨hl1,hxe,hblk⟩:=hall;have hl':1<=(nth c.aa.nodes a.toNat).l.length:=hl1;obtain⟨g0a,g0b,g0c⟩:=hmem 0 jB;have hex:=hx (c.ac a) (c.ay a 0) hq g0b g0c g0a (.inl hxe);have eM:Ev c ((ar n (c.ac a) (c.ay a 0)).1.ap (decide ((ar n (c.ac a) (c.ay a 0)).2=2)) a):=(ev.trans (dw n _ _)).trans (iG _ _ _);have hM:=h.ev eM;have hmust:=oz (ar n (c.ac a) (c.ay a 0)).1 (decide ((ar n (c.ac a) (c.ay a 0)).2=2)) a;rcases k with k|k
  ·have hk':(nth c.aa.nodes a.toNat).kind=15:=k;have k0:((c.ac a).node a).kind=15:=k;rw[show bv (n+1) c a=de (dZ (bv n)) ((ar n (c.ac a) (c.ay a 0)).1.ap (decide ((ar n (c.ac a) (c.ay a 0)).2=2)) a) ((c.node a).l.drop 1) from by unfold bv;simp only;rw[k0];rfl];generalize hY:de (dZ (bv n)) ((ar n (c.ac a) (c.ay a 0)).1.ap (decide ((ar n (c.ac a) (c.ay a 0)).2=2)) a) ((c.node a).l.drop 1)=Y;refine aT func216 ntmps216 ?_
   (refine S ?_;try exact jI)
   (have W:=hk';repeat' (first|refine aB fun K hK=>?_|refine aC ?_|(with_reducible refine gR 1 ?_);refine dE 1 [0,1,2,3,4,5,6,7,8,9,10,11] mixed ?_|(refine hK _ _ ?_;clear hK K)|(refine aA ?_ ?_<;>intro hc<;>try exact jz)|refine cm (hex) ?_|refine cm (hmust) ?_|refine aD ?_|exact jI|(clear hK K)));all_goals(try clear W)
   refine fi (S:=Nat×Ck) [(12,1),(46,21)] (fun s=>s.1<=(c.node a).l.length/\1<=s.1/\bu s.2/\s.2.aa=c.aa/\de (dZ (bv n)) s.2 ((c.node a).l.drop s.1)=Y) (fun s=>[(12,rI s.1)]) (fun s=>⟨[0,1,2,3,4,5],fC s.2++[(6,.var 53 (fb (c.node a)))]⟩) (fun s=>(c.node a).l.length-s.1) (1,(ar n (c.ac a) (c.ay a 0)).1.ap (decide ((ar n (c.ac a) (c.ay a 0)).2=2)) a) ⟨jJ,Nat.le_refl _,hM,eM.aa,hY⟩ (fj jr cQ) ?_;rintro⟨i,z⟩ ⟨hi,hi1,hz,hzt,hA⟩ Kr hKr;simp only at hi hi1 hz hzt hA;have hi':i<=(nth c.aa.nodes a.toNat).l.length:=hi
   (refine S ?_;try exact jI)
   by_cases hgo:i<(c.node a).l.length/\z.e=0
   ·obtain⟨hg1,hg2⟩:=hgo;have hg1':i<(nth c.aa.nodes a.toNat).l.length:=hg1;rw[lj hg1,de,if_pos hg2]at hA;have hm:nth (c.node a).l i∈(c.node a).l:=dT hg1;have hb:=hkid _ hm;have hbc:=hbl z (nth (c.node a).l i) hz hb.1 (by rw[hzt];omega) jB (by
     have:z.node (nth (c.node a).l i)=c.node (nth (c.node a).l i):=by unfold Ck.node;rw[hzt]
     rw[this];exact hblk i hg1 hi1)
    have sz:=(oZ (fun q b hq he=>kY n q b hq he) hz (nth (c.node a).l i)).1
    (have W:=hg2;repeat' (first|refine aB fun K hK=>?_|refine aC ?_|(refine hK _ _ ?_;clear hK K)|(refine aA ?_ ?_<;>intro hc<;>try exact jz)|refine cm (hbc) ?_|refine aD ?_|exact jI|(clear hK K)));all_goals(try clear W)
    refine hKr _ _ (fw (i+1,dZ (bv n) z (nth (c.node a).l i)) ⟨jJ,jJ,sz.inv,sz.aa.trans hzt,hA⟩ jJ jr cQ)
   ·have hz2:z=Y:=by
     by_cases hg1:i<(c.node a).l.length
     ·rw[lj hg1,de,if_neg fun e=>hgo ⟨hg1,e⟩]at hA;exact hA
     ·rw[List.drop_eq_nil_of_le jB,de]at hA;exact hA
    have hgo':¬(i<(nth c.aa.nodes a.toNat).l.length/\z.e=0):=hgo
    (repeat' (first|refine aB fun K hK=>?_|refine aC ?_|(refine hK _ _ ?_;clear hK K)|(refine aA ?_ ?_<;>intro hc<;>try exact jz)|refine aD ?_|exact jI|(clear hK K)))
    all_goals first|(exact absurd ⟨by have:=hc.1;omega,hc.2⟩ hgo')|skip
    rw[<-hz2]
    (refine bH [] ?_;try simp only[go_sem])
  ·have hk':(nth c.aa.nodes a.toNat).kind=16:=k;have k0:((c.ac a).node a).kind=16:=k;rw[show bv (n+1) c a=de (dZ (bv n)) ((ar n (c.ac a) (c.ay a 0)).1.ap (decide ((ar n (c.ac a) (c.ay a 0)).2=2)) a) ((c.node a).l.drop 1) from by unfold bv;simp only;rw[k0];rfl];generalize hY:de (dZ (bv n)) ((ar n (c.ac a) (c.ay a 0)).1.ap (decide ((ar n (c.ac a) (c.ay a 0)).2=2)) a) ((c.node a).l.drop 1)=Y;refine aT func216 ntmps216 ?_
   (refine S ?_;try exact jI)
   (have W:=hk';repeat' (first|refine aB fun K hK=>?_|refine aC ?_|(with_reducible refine gR 1 ?_);refine dE 1 [0,1,2,3,4,5,6,7,8,9,10,11] mixed ?_|(refine hK _ _ ?_;clear hK K)|(refine aA ?_ ?_<;>intro hc<;>try exact jz)|refine cm (hex) ?_|refine cm (hmust) ?_|refine aD ?_|exact jI|(clear hK K)));all_goals(try clear W)
   refine fi (S:=Nat×Ck) [(12,1),(46,21)] (fun s=>s.1<=(c.node a).l.length/\1<=s.1/\bu s.2/\s.2.aa=c.aa/\de (dZ (bv n)) s.2 ((c.node a).l.drop s.1)=Y) (fun s=>[(12,rI s.1)]) (fun s=>⟨[0,1,2,3,4,5],fC s.2++[(6,.var 53 (fb (c.node a)))]⟩) (fun s=>(c.node a).l.length-s.1) (1,(ar n (c.ac a) (c.ay a 0)).1.ap (decide ((ar n (c.ac a) (c.ay a 0)).2=2)) a) ⟨jJ,Nat.le_refl _,hM,eM.aa,hY⟩ (fj jr cQ) ?_;rintro⟨i,z⟩ ⟨hi,hi1,hz,hzt,hA⟩ Kr hKr;simp only at hi hi1 hz hzt hA;have hi':i<=(nth c.aa.nodes a.toNat).l.length:=hi
   (refine S ?_;try exact jI)
   by_cases hgo:i<(c.node a).l.length/\z.e=0
   ·obtain⟨hg1,hg2⟩:=hgo;have hg1':i<(nth c.aa.nodes a.toNat).l.length:=hg1;rw[lj hg1,de,if_pos hg2]at hA;have hm:nth (c.node a).l i∈(c.node a).l:=dT hg1;have hb:=hkid _ hm;have hbc:=hbl z (nth (c.node a).l i) hz hb.1 (by rw[hzt];omega) jB (by
     have:z.node (nth (c.node a).l i)=c.node (nth (c.node a).l i):=by unfold Ck.node;rw[hzt]
     rw[this];exact hblk i hg1 hi1)
    have sz:=(oZ (fun q b hq he=>kY n q b hq he) hz (nth (c.node a).l i)).1
    (have W:=hg2;repeat' (first|refine aB fun K hK=>?_|refine aC ?_|(refine hK _ _ ?_;clear hK K)|(refine aA ?_ ?_<;>intro hc<;>try exact jz)|refine cm (hbc) ?_|refine aD ?_|exact jI|(clear hK K)));all_goals(try clear W)
    refine hKr _ _ (fw (i+1,dZ (bv n) z (nth (c.node a).l i)) ⟨jJ,jJ,sz.inv,sz.aa.trans hzt,hA⟩ jJ jr cQ)
   ·have hz2:z=Y:=by
     by_cases hg1:i<(c.node a).l.length
     ·rw[lj hg1,de,if_neg fun e=>hgo ⟨hg1,e⟩]at hA;exact hA
     ·rw[List.drop_eq_nil_of_le jB,de]at hA;exact hA
    have hgo':¬(i<(nth c.aa.nodes a.toNat).l.length/\z.e=0):=hgo
    (repeat' (first|refine aB fun K hK=>?_|refine aC ?_|(refine hK _ _ ?_;clear hK K)|(refine aA ?_ ?_<;>intro hc<;>try exact jz)|refine aD ?_|exact jI|(clear hK K)))
    all_goals first|(exact absurd ⟨by have:=hc.1;omega,hc.2⟩ hgo')|skip
    rw[<-hz2]
    (refine bH [] ?_;try simp only[go_sem])
end Go.Proofs.YtfkgcobaheegbaaGreatDoor
namespace Go.Gd
open Go
theorem dq.sH{F:List AV}{H:Hp}(j k:Nat){t:TypeId}{cs:List AV}(hj:H.get j=some (.var t cs)):dq F H F (H.put j (.var t (cs.set k .any))):=fun w tm h1 h2=>by
 obtain⟨a',b'⟩:=B5 (cs':=cs.set k .any) h1 (j:=j) (t:=t) (cs:=cs) hj jE fun n x x' v hx hx' hv=>by
  rw[List.getElem?_set]at hx';by_cases hn:k=n
  ·subst hn;rw[if_pos rfl]at hx';split at hx'
   ·cases hx';exact .any _
   ·cases hx'
  ·rw[if_neg hn]at hx';rw[hx]at hx';cases hx';exact hv
 exact⟨w,rfl,a',h2,b'.pB⟩
theorem HW{P:Program}{id:Nat}{l:List Oper}{b:Bool}{Q:Exit->List AV->Hp->Prop}{F:List AV}{H:Hp}{q:Prop}(j k:Nat){t:TypeId}{cs:List AV}{i m sz n:Nat}(h:q)(hj:H.get j=some (.var t cs):=by rfl)(hc:cs[k]?=some (.rs i m sz n):=by rfl)(e:dH P (.region id l.toArray b) Q F (H.put j (.var t (cs.set k .any)))=q:=by first|(simp only[go_sem];rfl)|rfl):dH P (.region id l.toArray b) Q F H:=iV (dq.sH j k hj) (e ▸ h)
end Go.Gd
namespace Go.Proofs.YtfkgcobaheegbaaGreatDoor
open Go Go.Gd Tryz
theorem wA:∀n,ub n
 |0=>fun c a h h0 h1 hn=>by omega
 |n+1=>K8 n (KX n (wA n) (Ps n (wA n)))
theorem DX:∀n,Am n
 |0=>fun c a h he h0 h1 hn=>by omega
 |n+1=>LY n (wA n) (fun c a h he h0 h1 hn hk=>Rf n (wA n) c a h he h0 h1 hn hk) (fun c a h h0 h1 hn hk=>P4 n (wA n) c a h h0 h1 hn hk) (FK n (DX n))
def yq(c:Ck):List AV:=[bp fb 5 c.aa.nodes,bp gg 5 c.aa.ao,.rs 1 c.types.length 1 c.types.length,.rs 2 c.slots.length 1 c.slots.length,.rs 3 c.ao.length 1 c.ao.length,.rs 4 c.aP.length 1 c.aP.length,rI c.fn,.any,rI c.size,rI c.e,rI c.at_]
def nJ(c:Ck):List (Nat×Row):=[(0,.var 172 (yq c)),(1,.aL 3 1 (c.types.map eI)),(2,.aL 3 1 (c.slots.map eI)),(3,.aL 3 1 (c.ao.map eI)),(4,.aL 3 1 (c.aP.map eI))]
attribute [go_sem] nJ yq
structure fv(c:Ck):Prop where
 aa:aH c.aa
 types:c.types.length=c.aa.nodes.length
 slots:c.slots.length=c.aa.nodes.length
 ao:c.ao.length=c.aa.nodes.length
def kg(c:Ck)(v:bC):Ck:={ c with vars:=c.vars++[v],more:=c.more.drop 1,size:=c.size+1 }
attribute [go_sem] kg
theorem zM{c:Ck}(h:bu c)(v:bC)(hs:c.size<=20):bu (kg c v):=⟨h.aa,h.types,h.slots,h.ao,h.aP,h.uQ,h.uC,by have:=h.vars;show((c.vars++[v]).length:Int)<=c.size+1;simp;omega,by show c.size+1<=25;omega,fun _=>by show c.size+1<=24;omega⟩
theorem Pg(c:Ck)(k:Nat)(h:fv c)(hk:k<c.aa.ao.length)(hsz:c.aP.length<6):aj prog 97 [pR,rI k] (nJ c) (fun v l=>v=.bj []/\l=nJ (fA c k)):=by
 have hff:=h.aa.ao;have hfn:=h.aa.fn _ (dT hk);have hp3:=hfn.2;have hbk:=h.aa.body _ (dT hk);have hbm:=h.aa.chain.mem (nth c.aa.ao k).body (List.mem_map.2 ⟨_,dT hk,rfl⟩);refine aT func97 ntmps97 ?_
 (refine S ?_;try exact jI)
 (repeat' (first|refine aB fun K hK=>?_|refine aC ?_|(refine hK _ _ ?_;clear hK K)|(refine aA ?_ ?_<;>intro hc<;>try exact jz)|refine al 6 ?_|refine aD ?_|exact jI|(clear hK K)))
 have hKo:=hK;clear hK;refine iV (dq.fM 5 0 7 63 3 rfl jC rfl rfl) ?_
 (refine S ?_;try exact jI)
 generalize hc0:({ c with fn:=(k:Int),vars:=[],more:=[],size:=0 }:Ck)=c0;have hi0:bu c0:=by subst hc0;exact⟨h.aa,h.types,h.slots,h.ao,by show c.aP.length<=6;omega,by show(0:Int)<=k;omega,by show(k:Int)<(c.aa.ao.length:Int);omega,by show((0:Nat):Int)<=0;omega,by show(0:Int)<=25;omega,fun _=>by show(0:Int)<=24;omega⟩
 have hc1:fA c k=(fun c2:Ck=>{ c2 with aP:=c2.aP++[c2.size],vars:=[],more:=[] }) (if(dU (nth c.aa.ao k).body c0 (nth c.aa.ao k).params 0).e=0 then dZ (bv c.aa.nodes.length) (dU (nth c.aa.ao k).body c0 (nth c.aa.ao k).params 0) (nth c.aa.ao k).body else dU (nth c.aa.ao k).body c0 (nth c.aa.ao k).params 0):=by subst hc0;rfl
 refine iV (dq.perm (fC c0++[(6,.var 100 (gg (nth c.aa.ao k)))]) (fun i=>by subst hc0;simp only[go_sem,av];(repeat' split)<;>first|rfl|omega)) ?_;refine fi (S:=Nat×Ck) [(5,1),(25,50)] (fun s=>s.1<=(nth c.aa.ao k).params.length/\bu s.2/\s.2.size=s.1/\s.2.vars.length=s.1/\s.2.aa=c.aa/\s.2.aP=c.aP/\dU (nth c.aa.ao k).body s.2 ((nth c.aa.ao k).params.drop s.1) s.1=dU (nth c.aa.ao k).body c0 (nth c.aa.ao k).params 0) (fun s=>[(5,rI s.1)]) (fun s=>⟨[0,1,2,3,4],fC s.2++[(6,.var 100 (gg (nth c.aa.ao k)))]⟩) (fun s=>(nth c.aa.ao k).params.length-s.1) (0,c0) ⟨jJ,hi0,by subst hc0;rfl,by subst hc0;rfl,by subst hc0;rfl,by subst hc0;rfl,rfl⟩ (fj rfl cQ) ?_;rintro⟨i,q⟩ ⟨hi,hq,hqs,hqv,hqt,hqz,hA⟩ Kr hKr;simp only at hi hq hqs hqv hqt hqz hA
 (refine S ?_;try exact jI)
 by_cases hlt:i<(nth c.aa.ao k).params.length
 ·rw[lj hlt,dU]at hA;have hfind:=BL q (nth (nth c.aa.ao k).params i).name hq;have hfa:=sj q 41 (nth c.aa.ao k).body;by_cases hf:0<=q.find (nth (nth c.aa.ao k).params i).name
  ·rw[if_pos hf]at hA;have ef:=mC q (e:=41) jC (nth c.aa.ao k).body;have hv1:=ef.vars;have hz1:=ef.size;have hi1:=hq.ev ef;have hvl:(q.aF 41 (nth c.aa.ao k).body).vars.length=i:=by rw[hv1,hqv]
   (repeat' (first|refine aB fun K hK=>?_|refine aC ?_|(with_reducible refine gR 9 ?_);refine dE 9 [0,1,2,3,4,5,6,7,8,9,10,11,12,13,14,15,16,17,18,19,20,21,22,23] mixed ?_|(refine hK _ _ ?_;clear hK K)|(refine aA ?_ ?_<;>intro hc<;>try exact jz)|refine cm (hfind) ?_|refine cm (hfa) ?_|refine qN (q.aF 41 (nth c.aa.ao k).body).vars (q.aF 41 (nth c.aa.ao k).body).more [⟨(nth (nth c.aa.ao k).params i).name,(nth (nth c.aa.ao k).params i).ty,(i:Int)⟩] ?_|refine aD ?_|exact jI|(clear hK K)))
   refine hKr _ _ (fw (i+1,kg (q.aF 41 (nth c.aa.ao k).body) ⟨(nth (nth c.aa.ao k).params i).name,(nth (nth c.aa.ao k).params i).ty,(i:Int)⟩) ⟨jJ,zM hi1 _ jB,by show(q.aF 41 (nth c.aa.ao k).body).size+1=_;omega,by show((q.aF 41 (nth c.aa.ao k).body).vars++[_]).length=i+1;rw[List.length_append,hvl];rfl,ef.aa.trans hqt,ef.aP.trans hqz,hA⟩ jJ jr cQ)
  ·rw[if_neg hf]at hA
   (repeat' (first|refine aB fun K hK=>?_|refine aC ?_|(with_reducible refine gR 9 ?_);refine dE 9 [0,1,2,3,4,5,6,7,8,9,10,11,12,13,14,15,16,17,18,19,20,21,22,23] mixed ?_|(refine hK _ _ ?_;clear hK K)|(refine aA ?_ ?_<;>intro hc<;>try exact jz)|refine cm (hfind) ?_|refine qN q.vars q.more [⟨(nth (nth c.aa.ao k).params i).name,(nth (nth c.aa.ao k).params i).ty,(i:Int)⟩] ?_|refine aD ?_|exact jI|(clear hK K)))
   refine hKr _ _ (fw (i+1,kg q ⟨(nth (nth c.aa.ao k).params i).name,(nth (nth c.aa.ao k).params i).ty,(i:Int)⟩) ⟨jJ,zM hq _ jB,by show q.size+1=_;omega,by show(q.vars++[_]).length=i+1;rw[List.length_append,hqv];rfl,hqt,hqz,hA⟩ jJ jr cQ)
 ·have hz:q=dU (nth c.aa.ao k).body c0 (nth c.aa.ao k).params 0:=by
   rw[List.drop_eq_nil_of_le jB]at hA;exact hA
  rw[<-hz]at hc1;by_cases he:q.e=0
  ·rw[if_pos he]at hc1;have sb:=(oZ (fun q b hq he=>kY c.aa.nodes.length q b hq he) hq (nth c.aa.ao k).body).1;have hbc:=FK c.aa.nodes.length (DX _) q (nth c.aa.ao k).body hq hbm.1 (by rw[hqt];omega) jB (by unfold Ck.node;rw[hqt];exact hbk);have hzl:(dZ (bv c.aa.nodes.length) q (nth c.aa.ao k).body).aP.length<6:=by rw[sb.aP,hqz];exact hsz
   (have W:=he;repeat' (first|refine HW (id:=13) 0 7 ?_|refine aB fun K hK=>?_|refine aC ?_|(with_reducible refine gR 13 ?_);refine dE 13 [0,1,2,3,4,5,6,7,8,9,10,11,12,13,14,15] mixed ?_|(refine hK _ _ ?_;clear hK K)|(refine aA ?_ ?_<;>intro hc<;>try exact jz)|refine hKo _ _ ?_|refine cm (hbc) ?_|refine aD ?_|exact jI|(clear hK K)));all_goals(try clear W)
   rw[hc1]
   (refine bH [] ?_;try simp only[go_sem])
  ·rw[if_neg he]at hc1;have hzl:q.aP.length<6:=by rw[hqz];exact hsz
   (have W:=he;repeat' (first|refine HW (id:=13) 0 7 ?_|refine aB fun K hK=>?_|refine aC ?_|(with_reducible refine gR 13 ?_);refine dE 13 [0,1,2,3,4,5,6,7,8,9,10,11,12,13,14,15] mixed ?_|(refine hK _ _ ?_;clear hK K)|(refine aA ?_ ?_<;>intro hc<;>try exact jz)|refine hKo _ _ ?_|refine aD ?_|exact jI|(clear hK K)));all_goals(try clear W)
   rw[hc1]
   (refine bH [] ?_;try simp only[go_sem])
theorem EE(c:Ck)(e a:Int):aj prog 150 [pR,rI e,rI a] (nJ c) (fun v l=>v=.bj []/\l=nJ (c.aF e a)):=by
 refine aT func150 ntmps150 ?_
 (refine S ?_;try exact jI)
 (repeat' (first|refine aB fun K hK=>?_|refine aC ?_|(refine hK _ _ ?_;clear hK K)|(refine aA ?_ ?_<;>intro hc<;>try exact jz)|refine aD ?_|exact jI|(clear hK K)))
 ·(refine bW [] ?_ ?_<;>(try simp only[go_sem]))
  simp only[Ck.aF,if_pos hc,nJ,yq]
 ·(refine bW [] ?_ ?_<;>(try simp only[go_sem]))
  simp only[Ck.aF,if_neg hc,nJ,yq]
theorem CM(x:aX):∀(l:List aX) (c:Ck),Ev c (lP x c l)
 |[],c=>by unfold lP;exact .refl c
 |f::l,c=>by
  unfold lP;refine Ev.trans ?_ (CM x l _);split
  ·exact mC c jC _
  ·exact .refl c
theorem A0(ao:List aX):∀(n:Nat) (c:Ck) (m:Bool) (i:Nat),Ev c (kT ao c m i n).1
 |0,c,m,i=>by unfold kT;exact .refl c
 |n+1,c,m,i=>by unfold kT;exact(CM _ _ _).trans (A0 ao n _ _ _)
theorem EO(c:Ck):Ev c (iY c):=by
 unfold iY;simp only;split
 ·exact A0 _ _ _ _ _
 ·exact(A0 _ _ _ _ _).trans (mC _ jC _)
theorem NO(c:Ck)(h:c.aa.ao.length<=6):aj prog 96 [pR] (nJ c) (fun v l=>v=.bj []/\l=nJ (iY c)):=by
 refine aT func96 ntmps96 ?_
 (refine S ?_;try exact jI)
 (repeat' (first|refine aB fun K hK=>?_|refine aC ?_|(refine hK _ _ ?_;clear hK K)|(refine aA ?_ ?_<;>intro hc<;>try exact jz)|refine aD ?_|exact jI|(clear hK K)))
 have hKo:=hK;clear hK;refine fi (S:=Nat×Ck×Bool) [(3,3),(12,55)] (fun s=>s.1<=c.aa.ao.length/\kT c.aa.ao s.2.1 s.2.2 s.1 (c.aa.ao.length-s.1)=kT c.aa.ao c false 0 c.aa.ao.length/\s.2.1.aa=c.aa) (fun s=>[(4,rI s.1),(3,rB s.2.2)]) (fun s=>⟨[0,1,2,3,4],nJ s.2.1⟩) (fun s=>c.aa.ao.length-s.1) (0,c,false) ⟨jJ,rfl,rfl⟩ (fj jr cQ) ?_;rintro⟨i,q,m⟩ ⟨hi,hA,hqt⟩ Kr hKr;simp only at hi hA hqt
 (refine S ?_;try exact jI)
 by_cases hlt:i<c.aa.ao.length
 ·rw[show c.aa.ao.length-i=(c.aa.ao.length-(i+1))+1 from jB,kT]at hA
  (repeat' (first|refine aB fun K hK=>?_|refine aC ?_|(refine hK _ _ ?_;clear hK K)|(refine aA ?_ ?_<;>intro hc<;>try exact jz)|refine aD ?_|exact jI|(clear hK K)))
  have hKi:=hK;clear hK;have hKb:=hK;clear hK;refine fi (S:=Nat×Ck) [(5,1),(18,23)] (fun s=>s.1<=i/\lP (nth c.aa.ao i) s.2 ((c.aa.ao.take i).drop s.1)=lP (nth c.aa.ao i) q (c.aa.ao.take i)) (fun s=>[(5,rI s.1)]) (fun s=>⟨[0,1,2,3,4],nJ s.2⟩) (fun s=>i-s.1) (0,q) ⟨jJ,rfl⟩ (fj jr cQ) ?_;rintro⟨k,z⟩ ⟨hk,hB⟩ Kj hKj;simp only at hk hB
  (refine S ?_;try exact jI)
  by_cases hkl:k<i
  ·have hkt:k<(c.aa.ao.take i).length:=by rw[List.length_take];omega
   have hnt:nth (c.aa.ao.take i) k=nth c.aa.ao k:=by simp[nth,List.getD_eq_getElem?_getD,List.getElem?_take,hkl]
   rw[lj hkt,hnt,lP]at hB;have hfa:=EE z 41 (nth c.aa.ao i).body
   (repeat' (first|refine aB fun K hK=>?_|refine aC ?_|(with_reducible refine gR 8 ?_);refine dE 8 [0,1,2,3,4,5,6,7,8,9,10] mixed ?_|(refine hK _ _ ?_;clear hK K)|(refine aA ?_ ?_<;>intro hc<;>try exact jz)|refine cm (hfa) ?_|refine aD ?_|exact jI|(clear hK K)))
   ·rw[if_pos hc]at hB;refine hKj _ _ (fw (k+1,z.aF 41 (nth c.aa.ao i).body) ⟨jJ,hB⟩ jJ jr cQ)
   ·rw[if_neg hc]at hB;refine hKj _ _ (fw (k+1,z) ⟨jJ,hB⟩ jJ jr cQ)
  ·rw[List.drop_eq_nil_of_le (by rw[List.length_take];omega),lP]at hB
   (repeat' (first|refine aB fun K hK=>?_|refine aC ?_|(refine hK _ _ ?_;clear hK K)|(refine aA ?_ ?_<;>intro hc<;>try exact jz)|refine hKi _ _ ?_|refine hKb _ _ ?_|refine aD ?_|exact jI|(clear hK K)))
   refine hKr _ _ (fw (i+1,z,m || u6 (nth c.aa.ao i)) ⟨jJ,by rw[<-hB]at hA;exact hA,by rw[hB];exact(CM _ _ _).aa.trans hqt⟩ jJ jr (by simp only[go_sem,jR,Nat.reduceAdd,AV.raw.injEq,Value.int.injEq,Value.slice.injEq,Value.pointer.injEq,AV.rs.injEq,u6];try omega))
 ·rw[show c.aa.ao.length-i=0 from jB,kT]at hA;have hz:iY c=if m=true then q else q.aF 44 0:=by unfold iY;rw[<-hA]
  have hfa:=EE q 44 0;cases m
  ·rw[if_neg jC]at hz
   (repeat' (first|refine aB fun K hK=>?_|refine aC ?_|(refine hK _ _ ?_;clear hK K)|(refine aA ?_ ?_<;>intro hc<;>try exact jz)|refine hKo _ _ ?_|refine cm (hfa) ?_|refine aD ?_|exact jI|(clear hK K)))
   rw[hz]
   (refine bW [] ?_ ?_<;>(try simp only[go_sem]))
  ·rw[if_pos rfl]at hz
   (repeat' (first|refine aB fun K hK=>?_|refine aC ?_|(refine hK _ _ ?_;clear hK K)|(refine aA ?_ ?_<;>intro hc<;>try exact jz)|refine hKo _ _ ?_|refine aD ?_|exact jI|(clear hK K)))
   rw[hz]
   (refine bW [] ?_ ?_<;>(try simp only[go_sem]))
theorem xy(body:Int):∀(ps:List bE) (c:Ck) (i:Int),bu c->c.size+ps.length<=20->bu (dU body c ps i)/\(dU body c ps i).aa=c.aa/\(dU body c ps i).aP=c.aP
 |[],c,i,h,hs=>by unfold dU;exact⟨h,rfl,rfl⟩
 |p::ps,c,i,h,hs=>by
  unfold dU;simp only[List.length_cons]at hs;have fin:∀c1:Ck,Ev c c1->bu (dU body (kg c1 ⟨p.name,p.ty,i⟩) ps (i+1))/\(dU body (kg c1 ⟨p.name,p.ty,i⟩) ps (i+1)).aa=c.aa/\(dU body (kg c1 ⟨p.name,p.ty,i⟩) ps (i+1)).aP=c.aP:=fun c1 s=>by have h1:=h.ev s;have hz:=s.size;obtain⟨a,b,d⟩:=xy body ps (kg c1 ⟨p.name,p.ty,i⟩) (i+1) (zM h1 _ jB) (by show c1.size+1+_<=20;omega);exact⟨a,b.trans s.aa,d.trans s.aP⟩
  simp only;split
  ·exact fin _ (mC c jC body)
  ·exact fin _ (.refl c)
theorem vS{c:Ck}(h:fv c){k:Nat}(hk:k<c.aa.ao.length)(hsz:c.aP.length<6):fv (fA c k)/\(fA c k).aa=c.aa/\(fA c k).aP.length=c.aP.length+1:=by
 have hp3:=(h.aa.fn _ (dT hk)).2;have hi0:bu { c with fn:=(k:Int),vars:=[],more:=[],size:=0 }:=⟨h.aa,h.types,h.slots,h.ao,by show c.aP.length<=6;omega,by show(0:Int)<=k;omega,by show(k:Int)<(c.aa.ao.length:Int);omega,by show((0:Nat):Int)<=0;omega,by show(0:Int)<=25;omega,fun _=>by show(0:Int)<=24;omega⟩;obtain⟨a,b,d⟩:=xy (nth c.aa.ao k).body (nth c.aa.ao k).params _ 0 hi0 (by show(0:Int)+_<=20;omega);unfold fA;simp only;split
 ·have s:=(oZ (fun q b hq he=>kY c.aa.nodes.length q b hq he) a (nth c.aa.ao k).body).1;have hi:=s.inv;refine⟨⟨hi.aa,hi.types,hi.slots,hi.ao⟩,s.aa.trans b,?_⟩;show((dZ (bv c.aa.nodes.length) _ _).aP++[_]).length=_;rw[List.length_append,s.aP,d];rfl
 ·refine⟨⟨a.aa,a.types,a.slots,a.ao⟩,b,?_⟩;show((dU _ _ _ _).aP++[_]).length=_;rw[List.length_append,d];rfl
def mJ(t:az)(n:Nat):Ck:=⟨t,(t.nodes.take n).map fun _=>0,(t.nodes.take n).map fun _=>-1,(t.nodes.take n).map fun _=>0,[],0,[],[],0,0,0⟩
variable{n:Nat}
theorem Nl(t:az)(h:t.nodes.length<=n):mJ t n=jq t:=by simp[mJ,jq,List.take_of_length_le h]
theorem Kw(t:az)(h:n<t.nodes.length):mJ t (n+1)={ mJ t n with types:=(mJ t n).types++[0],slots:=(mJ t n).slots++[-1],ao:=(mJ t n).ao++[0] }:=by simp[mJ,MG h]
theorem Nv(t:az)(h:n<=t.nodes.length):(mJ t n).types.length=n/\(mJ t n).slots.length=n/\(mJ t n).ao.length=n:=by simp[mJ];omega
@[go_sem] theorem jz9(t:az)(l:List AV):lG t++l=bp fb 5 t.nodes::bp gg 5 t.ao::l:=rfl
theorem P9(t:az)(h:aH t):eG prog 54 [.agg (lG t)] (.bj [.agg (gp (gP t).1),rI (gP t).2.1,rI (gP t).2.2]):=by
 have hf:=h.ao;have hm:=h.many;refine fm func54 ntmps54 ?_
 (repeat' (first|refine aB fun K hK=>?_|refine aC ?_|(refine hK _ _ ?_;clear hK K)|(refine aA ?_ ?_<;>intro hc<;>try exact jz)|refine bx 10 ?_|refine al 11 ?_|refine bx 0 ?_|refine aD ?_|exact jI|(clear hK K)))
 have hKo:=hK;clear hK;refine iV (dq.fM 1 0 2 3 1 rfl jC rfl rfl) ?_
 (refine S ?_;try exact jI)
 refine iV (dq.fM 2 0 3 3 1 rfl jC rfl rfl) ?_
 (refine S ?_;try exact jI)
 refine iV (dq.fM 3 0 4 3 1 rfl jC rfl rfl) ?_
 (refine S ?_;try exact jI)
 refine iV (dq.fM 4 0 5 3 1 rfl jC rfl rfl) ?_
 (refine S ?_;try exact jI)
 refine iV (dq.sH 0 7 rfl) ?_
 (refine S ?_;try exact jI)
 refine iV (dq.perm (nJ (mJ t 0)++[(10,.var 27 (lG t)),(11,.var 29 [.raw (.slice none 0 0),.raw (.slice none 0 0),.raw (.slice none 0 0),.raw (.slice none 0 0),.raw (.slice none 0 0),.raw (.slice none 0 0)])]) (fun i=>by simp only[go_sem,av,mJ];(repeat' split)<;>first|rfl|omega)) ?_;refine fi (S:=Nat) [(6,1),(12,40)] (fun k=>k<=t.nodes.length) (fun k=>[(6,rI k)]) (fun k=>⟨[],nJ (mJ t k)++[(10,.var 27 (lG t)),(11,.var 29 [.raw (.slice none 0 0),.raw (.slice none 0 0),.raw (.slice none 0 0),.raw (.slice none 0 0),.raw (.slice none 0 0),.raw (.slice none 0 0)])]⟩) (fun k=>t.nodes.length-k) 0 (Nat.zero_le _) (fj rfl cQ) ?_;rintro k hk Kr hKr;obtain⟨l1,l2,l3⟩:=Nv t hk
 (refine S ?_;try exact jI)
 by_cases hlt:k<t.nodes.length
 ·(repeat' (first|refine aB fun K hK=>?_|refine aC ?_|(refine hK _ _ ?_;clear hK K)|(refine aA ?_ ?_<;>intro hc<;>try exact jz)|refine aD ?_|exact jI|(clear hK K)))
  refine hKr _ _ (fw (k+1) jB jB (by rw[Kw t hlt];exact jr) cQ)
 ·have hall:=Nl t (n:=k) jB;rw[hall]at*;have hh:=NO (jq t) hf
  (repeat' (first|refine aB fun K hK=>?_|refine aC ?_|(refine hK _ _ ?_;clear hK K)|(refine aA ?_ ?_<;>intro hc<;>try exact jz)|refine hKo _ _ ?_|refine cm (hh) ?_|refine aD ?_|exact jI|(clear hK K)))
  have hKo2:=hK;clear hK;have eh:=EO (jq t);have hi0:fv (iY (jq t)):=⟨by rw[eh.aa];exact h,by rw[eh.types,eh.aa];simp[jq],by rw[eh.slots,eh.aa];simp[jq],by rw[eh.ao,eh.aa];simp[jq]⟩;refine fi (S:=Nat×Ck) [(7,1),(54,17)] (fun s=>s.1<=t.ao.length/\fv s.2/\s.2.aa=t/\s.2.aP.length=s.1/\fE s.2 s.1 (t.ao.length-s.1)=iv t) (fun s=>[(7,rI s.1)]) (fun s=>⟨[],nJ s.2++[(10,.var 27 (lG t)),(11,.var 29 [.raw (.slice none 0 0),.raw (.slice none 0 0),.raw (.slice none 0 0),.raw (.slice none 0 0),.raw (.slice none 0 0),.raw (.slice none 0 0)])]⟩) (fun s=>t.ao.length-s.1) (0,iY (jq t)) ⟨Nat.zero_le _,hi0,eh.aa,by rw[eh.aP];rfl,rfl⟩ (fj jr cQ) ?_;rintro⟨i,q⟩ ⟨hi,hq,hqt,hqz,hA⟩ Kr2 hKr2;simp only at hi hq hqt hqz hA
  (refine S ?_;try exact jI)
  by_cases hgo:i<t.ao.length/\q.e=0
  ·obtain⟨hg1,hg2⟩:=hgo;rw[show t.ao.length-i=(t.ao.length-(i+1))+1 from jB,fE,if_pos hg2]at hA;have hkf:i<q.aa.ao.length:=by rw[hqt];exact hg1
   have hfc:=Pg q i hq hkf jB;obtain⟨f1,f2,f3⟩:=vS hq hkf jB
   (have W:=hg2;repeat' (first|refine aB fun K hK=>?_|refine aC ?_|(refine hK _ _ ?_;clear hK K)|(refine aA ?_ ?_<;>intro hc<;>try exact jz)|refine cm (hfc) ?_|refine aD ?_|exact jI|(clear hK K)));all_goals(try clear W)
   refine hKr2 _ _ (fw (i+1,fA q i) ⟨jJ,f1,f2.trans hqt,jJ,hA⟩ jJ jr cQ)
  ·have hz:q=iv t:=by
    rw[<-hA];by_cases hg1:i<t.ao.length
    ·rw[show t.ao.length-i=(t.ao.length-(i+1))+1 from jB,fE,if_neg fun e=>hgo ⟨hg1,e⟩]
    ·rw[show t.ao.length-i=0 from jB,fE]
   by_cases he:q.e=0
   ·have hr:gP t=(q.prog,0,0):=by unfold gP;rw[<-hz,if_neg (fun h=>h he)]
    have hlen:¬i<t.ao.length:=fun h=>hgo ⟨h,he⟩
    (have W:=he;repeat' (first|refine aB fun K hK=>?_|refine aC ?_|(refine hK _ _ ?_;clear hK K)|(refine aA ?_ ?_<;>intro hc<;>try exact jz)|(refine hKo2 _ _ ?_)|refine aD ?_|exact jI|(clear hK K)));all_goals(try clear W)
    rw[hr];refine l6 [.cell 2 29,.tmp 3,.tmp 4] ?_;refine bX.bj (ds:=[.agg (gp q.prog),rI 0,rI 0]) ?_;refine jA (bX.agg (ds:=gp q.prog) ?_) (jA (.same _ rfl) (jA (.same _ rfl) trivial));simp only[gp,Ck.prog];exact ki
   ·have hr:gP t=(kR,q.at_,q.e):=by unfold gP;rw[<-hz,if_pos he]
    (have W:=he;repeat' (first|refine aB fun K hK=>?_|refine aC ?_|(with_reducible refine gR 14 ?_);refine dA 14 [11] [0,1,2,3,4,5,6,7,8,9,10,11] mixed ?_|(refine hK _ _ ?_;clear hK K)|(refine aA ?_ ?_<;>intro hc<;>try exact jz)|(refine hKo2 _ _ ?_)|refine aD ?_|exact jI|(clear hK K)));all_goals(try clear W)
    rw[hr];refine l6 [.cell 2 29,.tmp 3,.tmp 4] ?_;refine bX.bj (ds:=[.agg (gp kR),rI _,rI _]) ?_;refine jA (bX.agg (ds:=gp kR) ?_) (jA (.same _ rfl) (jA (.same _ rfl) trivial));simp only[gp,kR];exact ki
end Go.Proofs.YtfkgcobaheegbaaGreatDoor

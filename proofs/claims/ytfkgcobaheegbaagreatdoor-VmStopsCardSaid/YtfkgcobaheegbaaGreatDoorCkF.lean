/- Lemmas. No conditions. -/
import Derived.Test.YtfkgcobaheegbaaGreatDoorP8
import Derived.Test.YtfkgcobaheegbaaGreatDoorEvS
set_option linter.all false
set_option maxHeartbeats 4000000
set_option maxRecDepth 10000
namespace Go.Proofs.YtfkgcobaheegbaaGreatDoor
open Go Go.Gd Tryz
def uF(c:Ck):List AV:=[bp fb 5 c.aa.nodes,bp gg 5 c.aa.ao,.rs 1 c.types.length 1 c.types.length,.rs 2 c.slots.length 1 c.slots.length,.rs 3 c.ao.length 1 c.ao.length,.rs 4 c.aP.length 1 c.aP.length,rI c.fn,.rs 5 (c.vars.length+c.more.length) 3 c.vars.length,rI c.size,rI c.e,rI c.at_]
def fC(c:Ck):List (Nat×Row):=[(0,.var 172 (uF c)),(1,.aL 3 1 (c.types.map eI)),(2,.aL 3 1 (c.slots.map eI)),(3,.aL 3 1 (c.ao.map eI)),(4,.aL 3 1 (c.aP.map eI)),(5,.aL 63 3 ((c.vars++c.more).map rW))]
attribute [go_sem] fC uF Ck.slot Ck.note Ck.ac
structure bu(c:Ck):Prop where
 aa:aH c.aa
 types:c.types.length=c.aa.nodes.length
 slots:c.slots.length=c.aa.nodes.length
 ao:c.ao.length=c.aa.nodes.length
 aP:c.aP.length<=6
 uQ:0<=c.fn
 uC:c.fn<c.aa.ao.length
 vars:(c.vars.length:Int)<=c.size
 size:c.size<=25
 room:c.e=0->c.size<=24
theorem wH{α:Type}(f:α->ByteArray)(nm:ByteArray):∀(l:List α) (i:Int),0<=i->(gj f nm l i=-1/\∀v∈l,f v≠nm)\/(i<=gj f nm l i/\gj f nm l i<i+l.length)
 |[],i,_=>.inl ⟨rfl,fun v hv=>by simp at hv⟩
 |v::l,i,hi=>by
  unfold gj;by_cases h:f v=nm
  ·rw[if_pos h];exact .inr jF
  ·rw[if_neg h];rcases wH f nm l (i+1) jB with⟨h1,h2⟩|h1
   ·exact .inl ⟨h1,fun u hu=>by
     rcases List.mem_cons.1 hu with rfl|hu
     ·exact h
     ·exact h2 u hu⟩
   ·exact .inr jF
theorem lj{α:Type}[Inhabited α]{l:List α}{i:Nat}(h:i<l.length):l.drop i=nth l i::l.drop (i+1):=by rw[dN h];exact List.drop_eq_getElem_cons h
theorem sj(c:Ck)(e a:Int):aj prog 150 [pR,rI e,rI a] (fC c) (fun v l=>v=.bj []/\l=fC (c.aF e a)):=by
 refine aT func150 ntmps150 ?_
 (refine S ?_;try exact jI)
 (repeat' (first|refine aB fun K hK=>?_|refine aC ?_|(refine hK _ _ ?_;clear hK K)|(refine aA ?_ ?_<;>intro hc<;>try exact jz)|refine aD ?_|exact jI|(clear hK K)))
 ·(refine bW [] ?_ ?_<;>(try simp only[go_sem]))
  simp only[Ck.aF,if_pos hc,fC,uF]
 ·(refine bW [] ?_ ?_<;>(try simp only[go_sem]))
  simp only[Ck.aF,if_neg hc,fC,uF]
theorem BL(c:Ck)(nm:ByteArray)(h:bu c):aj prog 151 [pR,rS nm] (fC c) (fun v l=>v=rI (c.find nm)/\l=fC c):=by
 have h1:=h.vars;have h2:=h.size;refine aT func151 ntmps151 ?_
 (refine S ?_;try exact jI)
 (repeat' (first|refine aB fun K hK=>?_|refine aC ?_|(refine hK _ _ ?_;clear hK K)|(refine aA ?_ ?_<;>intro hc<;>try exact jz)|refine aD ?_|exact jI|(clear hK K)))
 have hKo:=hK;clear hK;refine fi (S:=Nat) [(4,22)] (fun k=>k<=c.vars.length/\gj bC.name nm (c.vars.drop k) k=c.find nm) (fun k=>[(5,rI k)]) (fun _=>⟨[0,1,2,3,4,5],fC c⟩) (fun k=>c.vars.length-k) 0 ⟨jB,rfl⟩ (fj jD cQ) ?_;rintro k ⟨hk1,hk2⟩ Kr hKr
 (refine S ?_;try exact jI)
 by_cases hk:k<c.vars.length
 ·rw[lj hk]at hk2;unfold gj at hk2;have hap:nth (c.vars++c.more) k=nth c.vars k:=my hk
  (have W:=hap;repeat' (first|refine aB fun K hK=>?_|refine aC ?_|(refine hK _ _ ?_;clear hK K)|(refine aA ?_ ?_<;>intro hc<;>try exact jz)|refine aD ?_|exact jI|(clear hK K)));all_goals(try clear W)
  ·(refine bW [.tmp 4] ?_ ?_<;>(try simp only[go_sem]))
   rw[if_pos hc]at hk2;rw[<-hk2]
  ·rw[if_neg hc]at hk2;refine hKr _ _ (fw (k+1) ⟨jB,by rw[<-hk2];rfl⟩ jJ jD cQ)
 ·rw[List.drop_eq_nil_of_le jB]at hk2
  (repeat' (first|refine aB fun K hK=>?_|refine aC ?_|(refine hK _ _ ?_;clear hK K)|(refine aA ?_ ?_<;>intro hc<;>try exact jz)|refine hKo _ _ ?_|refine aD ?_|exact jI|(clear hK K)))
  (refine bW [.tmp 4] ?_ ?_<;>(try simp only[go_sem]))
  rw[<-hk2];rfl
theorem oz(c:Ck)(b:Bool)(a:Int):aj prog 253 [pR,rB b,rI a] (fC c) (fun v l=>v=.bj []/\l=fC (c.ap b a)):=by
 refine aT func253 ntmps253 ?_
 (refine S ?_;try exact jI)
 (repeat' (first|refine aB fun K hK=>?_|refine aC ?_|(refine hK _ _ ?_;clear hK K)|(refine aA ?_ ?_<;>intro hc<;>try exact jz)|refine cm (sj c 42 a) ?_|refine aD ?_|exact jI|(clear hK K)))
 ·(refine bW [] ?_ ?_<;>(try simp only[go_sem]))
  simp only[Ck.ap,hc,Bool.false_eq_true,if_false,fC,uF]
 ·(refine bW [] ?_ ?_<;>(try simp only[go_sem]))
  simp only[Ck.ap,hc,if_true,fC,uF]
variable{a:Int}
theorem ut{c:Ck}(h:bu c)(h0:0<=a)(h1:a<c.aa.nodes.length):Shape c.aa.nodes (c.node a)/\∀x∈(c.node a).l,0<=x/\x.toNat<a.toNat:=by have:=h.aa.shape a.toNat jB;exact⟨this.1,this.2.1⟩
theorem yw{c:Ck}(h:bu c)(h0:0<=a)(h1:a<c.aa.nodes.length):(c.node a).l.length<=300:=by obtain⟨_,_,lo,hc⟩:=h.aa.shape a.toNat jB;have:=hc.len;have:=h.aa.many;show(nth c.aa.nodes a.toNat).l.length<=300;omega
theorem Ip(c:Ck)(a:Int)(h:bu c)(h0:0<=a)(h1:a<c.aa.nodes.length):aj prog 251 [pR,rI a] (fC c) (fun v l=>v=rI (c.named a).2/\l=fC (c.named a).1):=by
 have hv:=h.vars;have hz:=h.size;have hsl:=h.slots;have hfd:=wH bC.name (c.node a).name c.vars 0 jB;have hfc:=BL c (c.node a).name h;have hfa:=sj c 40 a;have hap:0<=c.find (c.node a).name->nth (c.vars++c.more) (c.find (c.node a).name).toNat=nth c.vars (c.find (c.node a).name).toNat:=fun h=>my (by have hfd:(c.find (c.node a).name=-1/\_)\/(0<=c.find (c.node a).name/\c.find (c.node a).name<0+c.vars.length):=hfd;omega)
 have hfd:(c.find (c.node a).name=-1/\_)\/(0<=c.find (c.node a).name/\c.find (c.node a).name<0+c.vars.length):=hfd;unfold Ck.named;by_cases hf:c.find (c.node a).name<0
 ·rw[if_pos hf];refine aT func251 ntmps251 ?_
  (refine S ?_;try exact jI)
  (repeat' (first|refine aB fun K hK=>?_|refine aC ?_|(refine hK _ _ ?_;clear hK K)|(refine aA ?_ ?_<;>intro hc<;>try exact jz)|refine cm (hfc) ?_|refine cm (hfa) ?_|refine aD ?_|exact jI|(clear hK K)))
  (refine bW [.tmp 4] ?_ ?_<;>(try simp only[go_sem]))
 ·rw[if_neg hf];have hap:=hap jB;refine aT func251 ntmps251 ?_
  (refine S ?_;try exact jI)
  (have W:=hap;repeat' (first|refine aB fun K hK=>?_|refine aC ?_|(with_reducible refine gR 5 ?_);refine dE 5 [0,1,2,3,4,5,6,7,8,9,10,11,12,13,14,15] mixed ?_|(refine hK _ _ ?_;clear hK K)|(refine aA ?_ ?_<;>intro hc<;>try exact jz)|refine cm (hfc) ?_|refine aD ?_|exact jI|(clear hK K)));all_goals(try clear W)
  (refine bW [.tmp 4] ?_ ?_<;>(try simp only[go_sem]))
structure Ev(c c':Ck):Prop where
 aa:c'.aa=c.aa
 fn:c'.fn=c.fn
 vars:c'.vars=c.vars
 more:c'.more=c.more
 size:c'.size=c.size
 aP:c'.aP=c.aP
 types:c'.types.length=c.types.length
 slots:c'.slots.length=c.slots.length
 ao:c'.ao.length=c.ao.length
 err:c.e≠0->c'.e≠0
theorem Ev.refl(c:Ck):Ev c c:=⟨rfl,rfl,rfl,rfl,rfl,rfl,rfl,rfl,rfl,id⟩
theorem Ev.trans{a b c:Ck}(h:Ev a b)(k:Ev b c):Ev a c:=⟨k.aa.trans h.aa,k.fn.trans h.fn,k.vars.trans h.vars,k.more.trans h.more,k.size.trans h.size,k.aP.trans h.aP,k.types.trans h.types,k.slots.trans h.slots,k.ao.trans h.ao,fun e=>k.err (h.err e)⟩
theorem bu.ev{c c':Ck}(h:bu c)(s:Ev c c'):bu c' where
 aa:=by rw[s.aa];exact h.aa
 types:=by rw[s.types,s.aa];exact h.types
 slots:=by rw[s.slots,s.aa];exact h.slots
 ao:=by rw[s.ao,s.aa];exact h.ao
 aP:=by rw[s.aP];exact h.aP
 uQ:=by rw[s.fn];exact h.uQ
 uC:=by rw[s.fn,s.aa];exact h.uC
 vars:=by rw[s.vars,s.size];exact h.vars
 size:=by rw[s.size];exact h.size
 room:=fun e=>by rw[s.size];exact h.room (Classical.byContradiction fun h=>s.err h e)
theorem Ev.node{c c':Ck}(s:Ev c c')(a:Int):c'.node a=c.node a:=by unfold Ck.node;rw[s.aa]
theorem Ev.ay{c c':Ck}(s:Ev c c')(a:Int)(i:Nat):c'.ay a i=c.ay a i:=by unfold Ck.ay;rw[s.node]
theorem mC(c:Ck){e:Int}(he:e≠0)(a:Int):Ev c (c.aF e a):=by
 unfold Ck.aF;split
 ·exact⟨rfl,rfl,rfl,rfl,rfl,rfl,rfl,rfl,rfl,fun _=>he⟩
 ·exact .refl c
theorem iG(c:Ck)(b:Bool)(a:Int):Ev c (c.ap b a):=by
 unfold Ck.ap;split
 ·exact .refl c
 ·exact mC c jC a
theorem Px(c:Ck)(a s:Int):Ev c (c.slot a s):=⟨rfl,rfl,rfl,rfl,rfl,rfl,rfl,by simp[Ck.slot],rfl,id⟩
theorem QI(c:Ck)(a t:Int):Ev c (c.note a t):=⟨rfl,rfl,rfl,rfl,rfl,rfl,by simp[Ck.note],rfl,by simp[Ck.note],id⟩
theorem pw(c:Ck)(a:Int):Ev c (c.ac a):=⟨rfl,rfl,rfl,rfl,rfl,rfl,rfl,rfl,by simp[Ck.ac],id⟩
theorem mG(c:Ck)(a:Int):Ev c (c.named a).1:=by
 unfold Ck.named;split
 ·exact mC c jC a
 ·exact Px c a _
theorem qz{ex:Ck->Int->Ck×Int}(hex:∀c a,Ev c (ex c a).1):∀(l:List Int) (c:Ck) (ts:List Int),Ev c (fO ex c l ts).1
 |[],c,ts=>by unfold fO;exact .refl c
 |a::l,c,ts=>by
  unfold fO;split
  ·exact(hex c a).trans (qz hex l _ _)
  ·exact .refl c
theorem yx(a:Int):∀(ts:List Int) (ps:List bE) (c:Ck),Ev c (gL a c ts ps)
 |[],_,c=>by unfold gL;exact .refl c
 |_::_,[],c=>by unfold gL;exact .refl c
 |t::ts,p::ps,c=>by
  unfold gL;split
  ·exact(iG c _ a).trans (yx a ts ps _)
  ·exact .refl c
variable{ex:Ck->Int->Ck×Int}
theorem Nb(hex:∀c a,Ev c (ex c a).1)(c:Ck)(a:Int):Ev c (gq ex c a).1:=by
 unfold gq;split
 ·exact mC c jC a
 ·refine Ev.trans ?_ (yx _ _ _ _);split
  ·exact(qz hex _ _ _).trans (mC _ jC a)
  ·exact qz hex _ _ _
theorem Cv(hex:∀c a,Ev c (ex c a).1)(c:Ck)(a:Int):Ev c (bV ex c a).1:=by
 unfold bV;simp only;repeat' split
 all_goals first
  |exact .refl c
  |exact mG c a
  |exact Nb hex c a
  |exact((mG c a).trans (hex _ _)).trans (iG _ _ _)
  |exact((hex c _).trans (hex _ _)).trans (iG _ _ _)
  |exact(hex c _).trans (iG _ _ _)
theorem dw:∀(n:Nat) (c:Ck) (a:Int),Ev c (ar n c a).1
 |0,c,a=>by unfold ar;exact .refl c
 |n+1,c,a=>by
  unfold ar;split
  ·exact .refl c
  ·exact(Cv (dw n) c a).trans (QI _ _ _)
def ub(n:Nat):Prop:=∀(c:Ck) (a:Int),bu c->0<=a->a<c.aa.nodes.length->a.toNat<n->dW (c.node a).kind->aj prog 252 [pR,rI a] (fC c) (fun v l=>v=rI (ar n c a).2/\l=fC (ar n c a).1)
def EA(n:Nat):Prop:=∀(c:Ck) (a:Int),bu c->c.e=0->0<=a->a<c.aa.nodes.length->a.toNat<=n->dW (c.node a).kind->aj prog 272 [pR,rI a] (fC c) (fun v l=>v=rI (bV (ar n) c a).2/\l=fC (bV (ar n) c a).1)
def EC(n:Nat):Prop:=∀(c:Ck) (a:Int),bu c->0<=a->a<c.aa.nodes.length->a.toNat<=n->(c.node a).kind=21->aj prog 284 [pR,rI a] (fC c) (fun v l=>v=rI (gq (ar n) c a).2/\l=fC (gq (ar n) c a).1)
theorem Kn(s:ByteArray)(a b:Int):eG prog 285 [rS s,rI a,rI b] (rI (gY s a b)):=by
 refine fm func285 ntmps285 ?_
 (repeat' (first|refine aB fun K hK=>?_|refine aC ?_|(refine hK _ _ ?_;clear hK K)|(refine aA ?_ ?_<;>intro hc<;>try exact jz)|refine aD ?_|exact jI|(clear hK K)))
 all_goals(refine bW [.tmp 6] ?_ ?_<;>(try simp only[go_sem]))
 all_goals simp_all [gY]
 all_goals omega
theorem K8(n:Nat)(ht:EA n):ub (n+1):=by
 intro c a h h0 h1 hn hk;have hz:=h.size;have hv:=h.vars;by_cases he:c.e=0
 ·have htc:=ht c a h he h0 h1 jB hk;have s:=Cv (dw n) c a;have h2:=h.ev s;have l1:=h2.types;have l2:=h2.ao;rw[s.aa]at l1 l2;rw[ar,jN];refine aT func252 ntmps252 ?_
  (refine S ?_;try exact jI)
  (repeat' (first|refine aB fun K hK=>?_|refine aC ?_|(with_reducible refine gR 5 ?_);refine dE 5 [0,1,2,3,4,5,6,7,8,9,10,11] mixed ?_|(refine hK _ _ ?_;clear hK K)|(refine aA ?_ ?_<;>intro hc<;>try exact jz)|refine cm (htc) ?_|refine aD ?_|exact jI|(clear hK K)))
  (refine bW [.tmp 4] ?_ ?_<;>(try simp only[go_sem]))
 ·rw[ar,if_pos he];refine aT func252 ntmps252 ?_
  (refine S ?_;try exact jI)
  (repeat' (first|refine aB fun K hK=>?_|refine aC ?_|(refine hK _ _ ?_;clear hK K)|(refine aA ?_ ?_<;>intro hc<;>try exact jz)|refine aD ?_|exact jI|(clear hK K)))
  (refine bW [.tmp 4] ?_ ?_<;>(try simp only[go_sem]))
theorem KX(n:Nat)(hx:ub n)(hcall:EC n):EA n:=by
 intro c a h he h0 h1 hn hk;have hz:=h.size;have hv:=h.vars;obtain⟨sh,hkid⟩:=ut h h0 h1;have hmem:∀i,i<(c.node a).l.length->(c.ay a i).toNat<n/\0<=c.ay a i/\c.ay a i<c.aa.nodes.length:=fun i hi=>by have hm:c.ay a i∈(c.node a).l:=dT hi;have:=hkid _ hm;omega
 have ev0:=mG c a;have hn0:=h.ev ev0;have hnm:=Ip c a h h0 h1;unfold dW bQ at hk;have e19:(c.node a).kind=1\/(c.node a).kind=19\/(c.node a).kind=2\/(c.node a).kind=3\/(c.node a).kind=4\/(c.node a).kind=21\/(c.node a).kind=5\/(c.node a).kind=9\/(c.node a).kind=6\/(c.node a).kind=7\/(c.node a).kind=8\/(c.node a).kind=20:=jB;rcases e19 with k|k|k|k|k|k|k|k|k|k|k|k
 ·have hk':(nth c.aa.nodes a.toNat).kind=1:=k;rw[show bV (ar n) c a=(c,1) from by unfold bV;rw[k];rfl];refine aT func272 ntmps272 ?_
  (refine S ?_;try exact jI)
  (have W:=hk';repeat' (first|refine aB fun K hK=>?_|refine aC ?_|(refine hK _ _ ?_;clear hK K)|(refine aA ?_ ?_<;>intro hc<;>try exact jz)|refine aD ?_|exact jI|(clear hK K)));all_goals(try clear W)
  (refine bH [.tmp 4] ?_;try simp only[go_sem])
 ·have hk':(nth c.aa.nodes a.toNat).kind=19:=k;rw[show bV (ar n) c a=(c,1) from by unfold bV;rw[k];rfl];refine aT func272 ntmps272 ?_
  (refine S ?_;try exact jI)
  (have W:=hk';repeat' (first|refine aB fun K hK=>?_|refine aC ?_|(refine hK _ _ ?_;clear hK K)|(refine aA ?_ ?_<;>intro hc<;>try exact jz)|refine aD ?_|exact jI|(clear hK K)));all_goals(try clear W)
  (refine bH [.tmp 4] ?_;try simp only[go_sem])
 ·have hk':(nth c.aa.nodes a.toNat).kind=2:=k;rw[show bV (ar n) c a=(c,2) from by unfold bV;rw[k];rfl];refine aT func272 ntmps272 ?_
  (refine S ?_;try exact jI)
  (have W:=hk';repeat' (first|refine aB fun K hK=>?_|refine aC ?_|(refine hK _ _ ?_;clear hK K)|(refine aA ?_ ?_<;>intro hc<;>try exact jz)|refine aD ?_|exact jI|(clear hK K)));all_goals(try clear W)
  (refine bH [.tmp 4] ?_;try simp only[go_sem])
 ·have hk':(nth c.aa.nodes a.toNat).kind=3:=k;rw[show bV (ar n) c a=(c,3) from by unfold bV;rw[k];rfl];refine aT func272 ntmps272 ?_
  (refine S ?_;try exact jI)
  (have W:=hk';repeat' (first|refine aB fun K hK=>?_|refine aC ?_|(refine hK _ _ ?_;clear hK K)|(refine aA ?_ ?_<;>intro hc<;>try exact jz)|refine aD ?_|exact jI|(clear hK K)));all_goals(try clear W)
  (refine bH [.tmp 4] ?_;try simp only[go_sem])
 ·have hk':(nth c.aa.nodes a.toNat).kind=4:=k;rw[show bV (ar n) c a=c.named a from by unfold bV;rw[k];rfl];refine aT func272 ntmps272 ?_
  (refine S ?_;try exact jI)
  (have W:=hk';repeat' (first|refine aB fun K hK=>?_|refine aC ?_|(refine hK _ _ ?_;clear hK K)|(refine aA ?_ ?_<;>intro hc<;>try exact jz)|refine cm (hnm) ?_|refine aD ?_|exact jI|(clear hK K)));all_goals(try clear W)
  (refine bH [.tmp 4] ?_;try simp only[go_sem])
 ·have hk':(nth c.aa.nodes a.toNat).kind=21:=k;rw[show bV (ar n) c a=gq (ar n) c a from by unfold bV;rw[k];rfl];have hcl:=hcall c a h h0 h1 hn k;refine aT func272 ntmps272 ?_
  (refine S ?_;try exact jI)
  (have W:=hk';repeat' (first|refine aB fun K hK=>?_|refine aC ?_|(refine hK _ _ ?_;clear hK K)|(refine aA ?_ ?_<;>intro hc<;>try exact jz)|refine cm (hcl) ?_|refine aD ?_|exact jI|(clear hK K)));all_goals(try clear W)
  (refine bH [.tmp 4] ?_;try simp only[go_sem])
 ·have hk':(nth c.aa.nodes a.toNat).kind=5:=k;obtain⟨x,hl,hxe⟩:=sh.one jB;have hl1:(c.node a).l.length=1:=by rw[hl];rfl
  have hl':(nth c.aa.nodes a.toNat).l.length=1:=hl1;obtain⟨g1,g2,g3⟩:=hmem 0 jB;have hkx:dW (c.node (c.ay a 0)).kind:=by
   have:c.ay a 0=x:=by unfold Ck.ay;rw[hl];rfl
   rw[this];exact .inl hxe
  have hex:=hx (c.named a).1 (c.ay a 0) hn0 g2 (by rw[ev0.aa];exact g3) g1 (by rw[ev0.node];exact hkx);have hm:=oz (ar n (c.named a).1 (c.ay a 0)).1 (decide ((c.named a).2=4) && decide ((ar n (c.named a).1 (c.ay a 0)).2=1)) a;rw[show bV (ar n) c a=((ar n (c.named a).1 (c.ay a 0)).1.ap (decide ((c.named a).2=4) && decide ((ar n (c.named a).1 (c.ay a 0)).2=1)) a,1) from by unfold bV;rw[k];rfl];refine aT func272 ntmps272 ?_
  (refine S ?_;try exact jI)
  (have W:=hk';repeat' (first|refine aB fun K hK=>?_|refine aC ?_|(refine hK _ _ ?_;clear hK K)|(refine aA ?_ ?_<;>intro hc<;>try exact jz)|refine cm (hnm) ?_|refine cm (hex) ?_|refine cm (hm) ?_|refine aD ?_|exact jI|(clear hK K)));all_goals(try clear W)
  (refine bH [.tmp 4] ?_;try simp only[go_sem])
 ·have hk':(nth c.aa.nodes a.toNat).kind=9:=k;obtain⟨x,y,hl,hxe,hye⟩:=sh.two jB;have hl1:(c.node a).l.length=2:=by rw[hl];rfl
  have hl':(nth c.aa.nodes a.toNat).l.length=2:=hl1;obtain⟨g1,g2,g3⟩:=hmem 0 jB;obtain⟨g4,g5,g6⟩:=hmem 1 jB;have hkx:dW (c.node (c.ay a 0)).kind:=by
   have:c.ay a 0=x:=by unfold Ck.ay;rw[hl];rfl
   rw[this];exact .inl hxe
  have hky:dW (c.node (c.ay a 1)).kind:=by
   have:c.ay a 1=y:=by unfold Ck.ay;rw[hl];rfl
   rw[this];exact .inl hye
  have ev1:=dw n c (c.ay a 0);have hex:=hx c (c.ay a 0) h g2 g3 g1 hkx;have hey:=hx (ar n c (c.ay a 0)).1 (c.ay a 1) (h.ev ev1) g5 (by rw[ev1.aa];exact g6) g4 (by rw[ev1.node];exact hky);have hb:=Kn (c.node a).name (ar n c (c.ay a 0)).2 (ar n (ar n c (c.ay a 0)).1 (c.ay a 1)).2;have hm:=oz (ar n (ar n c (c.ay a 0)).1 (c.ay a 1)).1 (!decide (gY (c.node a).name (ar n c (c.ay a 0)).2 (ar n (ar n c (c.ay a 0)).1 (c.ay a 1)).2=0)) a;rw[show bV (ar n) c a=((ar n (ar n c (c.ay a 0)).1 (c.ay a 1)).1.ap (!decide (gY (c.node a).name (ar n c (c.ay a 0)).2 (ar n (ar n c (c.ay a 0)).1 (c.ay a 1)).2=0)) a,gY (c.node a).name (ar n c (c.ay a 0)).2 (ar n (ar n c (c.ay a 0)).1 (c.ay a 1)).2) from by unfold bV;rw[k];rfl];refine aT func272 ntmps272 ?_
  (refine S ?_;try exact jI)
  (have W:=hk';repeat' (first|refine aB fun K hK=>?_|refine aC ?_|(refine hK _ _ ?_;clear hK K)|(refine aA ?_ ?_<;>intro hc<;>try exact jz)|refine cm (hex) ?_|refine cm (hey) ?_|refine cp (hb) ?_|refine cm (hm) ?_|refine aD ?_|exact jI|(clear hK K)));all_goals(try clear W)
  (refine bH [.tmp 4] ?_;try simp only[go_sem])
 ·have hk':(nth c.aa.nodes a.toNat).kind=6:=k;obtain⟨x,hl,hxe⟩:=sh.one jB;have hl1:(c.node a).l.length=1:=by rw[hl];rfl
  have hl':(nth c.aa.nodes a.toNat).l.length=1:=hl1;obtain⟨g1,g2,g3⟩:=hmem 0 jB;have hkx:dW (c.node (c.ay a 0)).kind:=by
   have:c.ay a 0=x:=by unfold Ck.ay;rw[hl];rfl
   rw[this];exact .inl hxe
  have hex:=hx c (c.ay a 0) h g2 g3 g1 hkx;have hm:=oz (ar n c (c.ay a 0)).1 (decide ((ar n c (c.ay a 0)).2=3) || decide ((ar n c (c.ay a 0)).2=4)) a;rw[show bV (ar n) c a=((ar n c (c.ay a 0)).1.ap (decide ((ar n c (c.ay a 0)).2=3) || decide ((ar n c (c.ay a 0)).2=4)) a,1) from by unfold bV;rw[k];rfl];refine aT func272 ntmps272 ?_
  (refine S ?_;try exact jI)
  (have W:=hk';repeat' (first|refine aB fun K hK=>?_|refine aC ?_|(refine hK _ _ ?_;clear hK K)|(refine aA ?_ ?_<;>intro hc<;>try exact jz)|refine cm (hex) ?_|refine cm (hm) ?_|refine aD ?_|exact jI|(clear hK K)));all_goals(try clear W)
  (refine bH [.tmp 4] ?_;try simp only[go_sem])
 ·have hk':(nth c.aa.nodes a.toNat).kind=7:=k;obtain⟨x,hl,hxe⟩:=sh.one jB;have hl1:(c.node a).l.length=1:=by rw[hl];rfl
  have hl':(nth c.aa.nodes a.toNat).l.length=1:=hl1;obtain⟨g1,g2,g3⟩:=hmem 0 jB;have hkx:dW (c.node (c.ay a 0)).kind:=by
   have:c.ay a 0=x:=by unfold Ck.ay;rw[hl];rfl
   rw[this];exact .inl hxe
  have hex:=hx c (c.ay a 0) h g2 g3 g1 hkx;have hm:=oz (ar n c (c.ay a 0)).1 (decide ((ar n c (c.ay a 0)).2=1)) a;rw[show bV (ar n) c a=((ar n c (c.ay a 0)).1.ap (decide ((ar n c (c.ay a 0)).2=1)) a,1) from by unfold bV;rw[k];rfl];refine aT func272 ntmps272 ?_
  (refine S ?_;try exact jI)
  (have W:=hk';repeat' (first|refine aB fun K hK=>?_|refine aC ?_|(refine hK _ _ ?_;clear hK K)|(refine aA ?_ ?_<;>intro hc<;>try exact jz)|refine cm (hex) ?_|refine cm (hm) ?_|refine aD ?_|exact jI|(clear hK K)));all_goals(try clear W)
  (refine bH [.tmp 4] ?_;try simp only[go_sem])
 ·have hk':(nth c.aa.nodes a.toNat).kind=8:=k;obtain⟨x,hl,hxe⟩:=sh.one jB;have hl1:(c.node a).l.length=1:=by rw[hl];rfl
  have hl':(nth c.aa.nodes a.toNat).l.length=1:=hl1;obtain⟨g1,g2,g3⟩:=hmem 0 jB;have hkx:dW (c.node (c.ay a 0)).kind:=by
   have:c.ay a 0=x:=by unfold Ck.ay;rw[hl];rfl
   rw[this];exact .inl hxe
  have hex:=hx c (c.ay a 0) h g2 g3 g1 hkx;have hm:=oz (ar n c (c.ay a 0)).1 (decide ((ar n c (c.ay a 0)).2=2)) a;rw[show bV (ar n) c a=((ar n c (c.ay a 0)).1.ap (decide ((ar n c (c.ay a 0)).2=2)) a,2) from by unfold bV;rw[k];rfl];refine aT func272 ntmps272 ?_
  (refine S ?_;try exact jI)
  (have W:=hk';repeat' (first|refine aB fun K hK=>?_|refine aC ?_|(refine hK _ _ ?_;clear hK K)|(refine aA ?_ ?_<;>intro hc<;>try exact jz)|refine cm (hex) ?_|refine cm (hm) ?_|refine aD ?_|exact jI|(clear hK K)));all_goals(try clear W)
  (refine bH [.tmp 4] ?_;try simp only[go_sem])
 ·have hk':(nth c.aa.nodes a.toNat).kind=20:=k;obtain⟨x,hl,hxe⟩:=sh.one jB;have hl1:(c.node a).l.length=1:=by rw[hl];rfl
  have hl':(nth c.aa.nodes a.toNat).l.length=1:=hl1;obtain⟨g1,g2,g3⟩:=hmem 0 jB;have hkx:dW (c.node (c.ay a 0)).kind:=by
   have:c.ay a 0=x:=by unfold Ck.ay;rw[hl];rfl
   rw[this];exact .inl hxe
  have hex:=hx c (c.ay a 0) h g2 g3 g1 hkx;have hm:=oz (ar n c (c.ay a 0)).1 (decide ((ar n c (c.ay a 0)).2=1)) a;rw[show bV (ar n) c a=((ar n c (c.ay a 0)).1.ap (decide ((ar n c (c.ay a 0)).2=1)) a,4) from by unfold bV;rw[k];rfl];refine aT func272 ntmps272 ?_
  (refine S ?_;try exact jI)
  (have W:=hk';repeat' (first|refine aB fun K hK=>?_|refine aC ?_|(refine hK _ _ ?_;clear hK K)|(refine aA ?_ ?_<;>intro hc<;>try exact jz)|refine cm (hex) ?_|refine cm (hm) ?_|refine aD ?_|exact jI|(clear hK K)));all_goals(try clear W)
  (refine bH [.tmp 4] ?_;try simp only[go_sem])
theorem rF(a:Int)(c:Ck)(ps:List bE):gL a c [] ps=c:=by cases ps<;>rfl
theorem rA(a:Int)(c:Ck)(ts:List Int):gL a c ts []=c:=by cases ts<;>rfl
theorem DU{α:Type}(f:α->ByteArray)(nm:ByteArray):∀(l:List α) (i k:Int),0<=i->(iZ f nm l i k=k\/i<=iZ f nm l i k)/\(iZ f nm l i k=k\/iZ f nm l i k<i+l.length)
 |[],i,k,_=>by unfold iZ;exact⟨.inl rfl,.inl rfl⟩
 |v::l,i,k,hi=>by
  unfold iZ;obtain⟨h1,h2⟩:=DU f nm l (i+1) (if f v=nm then i else k) jB;simp only[List.length_cons];split at h1<;>rename_i hv
  ·rw[if_pos hv]at h2 ⊢;omega
  ·rw[if_neg hv]at h2 ⊢;omega
theorem Ps(n:Nat)(hx:ub n):EC n:=by
 intro c a h h0 h1 hn hk;have hz:=h.size;have hv:=h.vars;have htf:=h.aa.ao;have htm:=h.aa.many;obtain⟨sh,hkid⟩:=ut h h0 h1;have hck:=h.aa.chain;have hlen:(nth c.aa.nodes a.toNat).l.length<=300:=yw h h0 h1;have hkk:∀i,i<(c.node a).l.length->dW (c.node (nth (c.node a).l i)).kind/\(nth (c.node a).l i).toNat<n/\0<=nth (c.node a).l i/\nth (c.node a).l i<c.aa.nodes.length:=fun i hi=>by have hm:nth (c.node a).l i∈(c.node a).l:=dT hi;have:=hkid _ hm;exact⟨.inl (sh.call hk _ hm),jB,this.1,jB⟩
 obtain⟨lg1,lg2⟩:=DU aX.name (c.node a).name c.aa.ao 0 (-1) jB;have lg1:fz c a=-1\/0<=fz c a:=lg1;have lg2:fz c a=-1\/fz c a<0+c.aa.ao.length:=lg2;refine aT func284 ntmps284 ?_
 (refine S ?_;try exact jI)
 (repeat' (first|refine aB fun K hK=>?_|refine aC ?_|(refine hK _ _ ?_;clear hK K)|(refine aA ?_ ?_<;>intro hc<;>try exact jz)|refine aD ?_|exact jI|(clear hK K)))
 have hKo:=hK;clear hK;refine fi (S:=Nat×Int) [(6,2),(22,25)] (fun s=>s.1<=c.aa.ao.length/\iZ aX.name (c.node a).name (c.aa.ao.drop s.1) s.1 s.2=fz c a) (fun s=>[(7,rI s.1),(6,rI s.2)]) (fun _=>⟨[0,1,2,3,4,5],fC c++[(6,.var 53 (fb (c.node a)))]⟩) (fun s=>c.aa.ao.length-s.1) (0,-1) ⟨jJ,rfl⟩ (fj jr cQ) ?_;rintro⟨k,j⟩ ⟨hk1,hk2⟩ Kr hKr;simp only at hk1 hk2
 (refine S ?_;try exact jI)
 by_cases hlt:k<c.aa.ao.length
 ·rw[lj hlt]at hk2;unfold iZ at hk2
  (repeat' (first|refine aB fun K hK=>?_|refine aC ?_|(with_reducible refine gR 6 ?_);refine dE 6 [0,1,2,3,4,5,6,7,8,9,10,11,12] mixed ?_|(refine hK _ _ ?_;clear hK K)|(refine aA ?_ ?_<;>intro hc<;>try exact jz)|refine aD ?_|exact jI|(clear hK K)))
  ·rw[if_pos hc]at hk2;refine hKr _ _ (fw (k+1,(k:Int)) ⟨jJ,by rw[<-hk2];rfl⟩ jJ jr cQ)
  ·rw[if_neg hc]at hk2;refine hKr _ _ (fw (k+1,j) ⟨jJ,by rw[<-hk2];rfl⟩ jJ jr cQ)
 ·rw[List.drop_eq_nil_of_le jB]at hk2;have hk2:j=fz c a:=hk2;subst hk2;by_cases hneg:fz c a<0
  ·rw[gq,if_pos hneg]at*
   (repeat' (first|refine aB fun K hK=>?_|refine aC ?_|(refine hK _ _ ?_;clear hK K)|(refine aA ?_ ?_<;>intro hc<;>try exact jz)|refine hKo _ _ ?_|refine cm (sj c 40 a) ?_|refine aD ?_|exact jI|(clear hK K)))
   (refine bH [.tmp 4] ?_;try simp only[go_sem])
  ·have hnn:0<=fz c a:=jB;have hcn:(fz c a).toNat<c.aa.ao.length:=jB;have hfp:=(h.aa.fn _ (dT hcn)).2;have e0:gq (ar n) c a=(gL a (if(c.node a).l.length≠(nth c.aa.ao (fz c a).toNat).params.length then(fO (ar n) c (c.node a).l []).1.aF 43 a else(fO (ar n) c (c.node a).l []).1) (fO (ar n) c (c.node a).l []).2 (nth c.aa.ao (fz c a).toNat).params,(nth c.aa.ao (fz c a).toNat).ret):=by
    rw[gq,if_neg hneg]
   (repeat' (first|refine aB fun K hK=>?_|refine aC ?_|(refine hK _ _ ?_;clear hK K)|(refine aA ?_ ?_<;>intro hc<;>try exact jz)|refine hKo _ _ ?_|refine aD ?_|exact jI|(clear hK K)))
   have hKo2:=hK;clear hK;refine iV (dq.nil 8 9 3 (sz:=1) rfl jC (Or.inr ⟨_,_,_,rfl,rfl⟩)) ?_
   (refine S ?_;try exact jI)
   refine fi (S:=Nat×Ck×List Int) [(9,3),(62,25)] (fun s=>s.1<=(c.node a).l.length/\Ev c s.2.1/\s.2.2.length=s.1/\fO (ar n) s.2.1 ((c.node a).l.drop s.1) s.2.2=fO (ar n) c (c.node a).l []) (fun s=>[(10,rI s.1),(9,.rs 8 s.2.2.length 1 s.2.2.length)]) (fun s=>⟨[0,1,2,3,4,5],fC s.2.1++[(6,.var 53 (fb (c.node a))),(7,.var 100 (gg (nth c.aa.ao (fz c a).toNat))),(8,.aL 3 1 (s.2.2.map eI))]⟩) (fun s=>(c.node a).l.length-s.1) (0,c,[]) ⟨jJ,.refl c,rfl,rfl⟩ (fj jr cQ) ?_;rintro⟨i,q,ts⟩ ⟨hi1,ev,hts,hA⟩ Kr2 hKr2;simp only at hi1 ev hts hA;have hq:=h.ev ev;have lt1:=hq.types;have lt2:=hq.slots;have lt3:=hq.ao;have lt4:=hq.vars;have lt5:=hq.size;have hlq:(c.node a).l.length<=300:=hlen
   (refine S ?_;try exact jI)
   by_cases hgo:i<(c.node a).l.length/\q.e=0
   ·obtain⟨hg1,hg2⟩:=hgo;rw[lj hg1,fO,if_pos hg2]at hA;obtain⟨g1,g2,g3,g4⟩:=hkk i hg1;have hxc:=hx q (nth (c.node a).l i) hq g3 (by rw[ev.aa];exact g4) g2 (by rw[ev.node];exact g1)
    (have W:=hg2;repeat' (first|refine aB fun K hK=>?_|refine aC ?_|(refine hK _ _ ?_;clear hK K)|(refine aA ?_ ?_<;>intro hc<;>try exact jz)|refine cm (hxc) ?_|refine aD ?_|exact jI|(clear hK K)));all_goals(try clear W)
    refine hKr2 _ _ (fw (i+1,(ar n q (nth (c.node a).l i)).1,ts++[(ar n q (nth (c.node a).l i)).2]) ⟨jJ,ev.trans (dw _ _ _),by simp[hts],hA⟩ jJ jr cQ)
   have hA2:fO (ar n) c (c.node a).l []=(q,ts):=by
    rw[<-hA];by_cases hg1:i<(c.node a).l.length
    ·rw[lj hg1,fO,if_neg fun e=>hgo ⟨hg1,e⟩]
    ·rw[List.drop_eq_nil_of_le jB,fO]
   have hq1:q=(fO (ar n) c (c.node a).l []).1:=by rw[hA2]
   have hq2:ts=(fO (ar n) c (c.node a).l []).2:=by rw[hA2]
   by_cases hne:(c.node a).l.length≠(nth c.aa.ao (fz c a).toNat).params.length
   ·have hne':(((c.node a).l.length:Int)=((nth c.aa.ao (fz c a).toNat).params.length:Int))=False:=eq_false jB;have hcx:(q.aF 43 a).e≠0:=by unfold Ck.aF;split;(exact fun h=>by cases h);assumption
    have evx:Ev c (q.aF 43 a):=ev.trans (mC q jC a);have hb:((q.aF 43 a)).e=0->ts.length<=(nth c.aa.ao (fz c a).toNat).params.length:=fun h=>(hcx h).elim
    (have W:=hne';repeat' (first|refine aB fun K hK=>?_|refine aC ?_|(refine hK _ _ ?_;clear hK K)|(refine aA ?_ ?_<;>intro hc<;>try exact jz)|(refine hKo2 _ _ ?_)|refine cm (sj q 43 a) ?_|refine aD ?_|exact jI|(clear hK K)));all_goals(try clear W)
    have hKo3:=hK;clear hK;refine fi (S:=Nat×Ck) [(12,1),(97,27)] (fun s=>s.1<=ts.length/\Ev (q.aF 43 a) s.2/\gL a s.2 (ts.drop s.1) ((nth c.aa.ao (fz c a).toNat).params.drop s.1)=gL a (q.aF 43 a) ts (nth c.aa.ao (fz c a).toNat).params) (fun s=>[(12,rI s.1)]) (fun s=>⟨[0,1,2,3,4,5],fC s.2++[(6,.var 53 (fb (c.node a))),(7,.var 100 (gg (nth c.aa.ao (fz c a).toNat))),(8,.aL 3 1 (ts.map eI))]⟩) (fun s=>ts.length-s.1) (0,(q.aF 43 a)) ⟨jJ,.refl _,rfl⟩ (fj jr cQ) ?_;rintro⟨m,z⟩ ⟨hm1,hm2,hm3⟩ Kr3 hKr3;simp only at hm1 hm2 hm3
    (refine S ?_;try exact jI)
    by_cases hgo:m<ts.length/\z.e=0
    ·obtain⟨hg1,hg2⟩:=hgo;have he1:((q.aF 43 a)).e=0:=Classical.byContradiction fun h=>hm2.err h hg2
     exact(hcx he1).elim
    ·have hz:z=gL a (q.aF 43 a) ts (nth c.aa.ao (fz c a).toNat).params:=by
      by_cases hg1:m<ts.length
      ·have hg2:z.e≠0:=fun e=>hgo ⟨hg1,e⟩
       rw[lj hg1]at hm3;cases hp:(nth c.aa.ao (fz c a).toNat).params.drop m with
       |nil=>rw[hp,rA]at hm3;exact hm3
       |cons x y=>rw[hp,gL,if_neg hg2]at hm3;exact hm3
      ·rw[List.drop_eq_nil_of_le jB,rF]at hm3;exact hm3
     (repeat' (first|refine aB fun K hK=>?_|refine aC ?_|(refine hK _ _ ?_;clear hK K)|(refine aA ?_ ?_<;>intro hc<;>try exact jz)|(refine hKo3 _ _ ?_)|refine aD ?_|exact jI|(clear hK K)))
     all_goals first|(exact absurd ⟨jB,by assumption⟩ hgo)|skip
     have e1:gq (ar n) c a=(z,(nth c.aa.ao (fz c a).toNat).ret):=by rw[e0,if_pos hne,<-hq1,<-hq2,hz]
     all_goals(
      rw[e1]
      (refine bH [.tmp 4] ?_;try simp only[go_sem]))
   ·have hne':((c.node a).l.length:Int)=((nth c.aa.ao (fz c a).toNat).params.length:Int):=jB;have hcx:True:=trivial;have evx:Ev c q:=ev;have hb:(q).e=0->ts.length<=(nth c.aa.ao (fz c a).toNat).params.length:=fun _=>jB
    (have W:=hne';repeat' (first|refine aB fun K hK=>?_|refine aC ?_|(refine hK _ _ ?_;clear hK K)|(refine aA ?_ ?_<;>intro hc<;>try exact jz)|(refine hKo2 _ _ ?_)|refine aD ?_|exact jI|(clear hK K)));all_goals(try clear W)
    have hKo3:=hK;clear hK;refine fi (S:=Nat×Ck) [(12,1),(97,27)] (fun s=>s.1<=ts.length/\Ev q s.2/\gL a s.2 (ts.drop s.1) ((nth c.aa.ao (fz c a).toNat).params.drop s.1)=gL a q ts (nth c.aa.ao (fz c a).toNat).params) (fun s=>[(12,rI s.1)]) (fun s=>⟨[0,1,2,3,4,5],fC s.2++[(6,.var 53 (fb (c.node a))),(7,.var 100 (gg (nth c.aa.ao (fz c a).toNat))),(8,.aL 3 1 (ts.map eI))]⟩) (fun s=>ts.length-s.1) (0,q) ⟨jJ,.refl _,rfl⟩ (fj jr cQ) ?_;rintro⟨m,z⟩ ⟨hm1,hm2,hm3⟩ Kr3 hKr3;simp only at hm1 hm2 hm3
    (refine S ?_;try exact jI)
    by_cases hgo:m<ts.length/\z.e=0
    ·obtain⟨hg1,hg2⟩:=hgo;have he1:(q).e=0:=Classical.byContradiction fun h=>hm2.err h hg2
     have hmp:m<(nth c.aa.ao (fz c a).toNat).params.length:=by have:=hb he1;omega
     rw[lj hg1,lj hmp,gL,if_pos hg2]at hm3
     (have W:=hg2;repeat' (first|refine aB fun K hK=>?_|refine aC ?_|(with_reducible refine gR 23 ?_);refine dE 23 [0,1,2,3,4,5,6,7,8,9,10,11,12,13] mixed ?_|(refine hK _ _ ?_;clear hK K)|(refine aA ?_ ?_<;>intro hc<;>try exact jz)|refine cm (oz z (decide (nth ts m=(nth (nth c.aa.ao (fz c a).toNat).params m).ty)) a) ?_|refine aD ?_|exact jI|(clear hK K)));all_goals(try clear W)
     refine hKr3 _ _ (fw (m+1,z.ap (decide (nth ts m=(nth (nth c.aa.ao (fz c a).toNat).params m).ty)) a) ⟨jJ,hm2.trans (iG _ _ _),hm3⟩ jJ jr cQ)
    ·have hz:z=gL a q ts (nth c.aa.ao (fz c a).toNat).params:=by
      by_cases hg1:m<ts.length
      ·have hg2:z.e≠0:=fun e=>hgo ⟨hg1,e⟩
       rw[lj hg1]at hm3;cases hp:(nth c.aa.ao (fz c a).toNat).params.drop m with
       |nil=>rw[hp,rA]at hm3;exact hm3
       |cons x y=>rw[hp,gL,if_neg hg2]at hm3;exact hm3
      ·rw[List.drop_eq_nil_of_le jB,rF]at hm3;exact hm3
     (repeat' (first|refine aB fun K hK=>?_|refine aC ?_|(refine hK _ _ ?_;clear hK K)|(refine aA ?_ ?_<;>intro hc<;>try exact jz)|(refine hKo3 _ _ ?_)|refine aD ?_|exact jI|(clear hK K)))
     all_goals first|(exact absurd ⟨jB,by assumption⟩ hgo)|skip
     have e1:gq (ar n) c a=(z,(nth c.aa.ao (fz c a).toNat).ret):=by rw[e0,if_neg hne,<-hq1,<-hq2,hz]
     all_goals(
      rw[e1]
      (refine bH [.tmp 4] ?_;try simp only[go_sem]))
structure Sv(c c':Ck):Prop where
 aa:c'.aa=c.aa
 fn:c'.fn=c.fn
 aP:c'.aP=c.aP
 err:c.e≠0->c'.e≠0
 inv:bu c'
 pre:∃u,c'.vars=c.vars++u
theorem Sv.refl{c:Ck}(h:bu c):Sv c c:=⟨rfl,rfl,rfl,id,h,[],jE⟩
theorem Sv.ir{c c':Ck}(h:bu c)(s:Ev c c'):Sv c c':=⟨s.aa,s.fn,s.aP,s.err,h.ev s,[],by rw[s.vars];simp⟩
theorem Sv.trans{a b c:Ck}(h:Sv a b)(k:Sv b c):Sv a c:=⟨k.aa.trans h.aa,k.fn.trans h.fn,k.aP.trans h.aP,fun e=>k.err (h.err e),k.inv,by obtain⟨u,hu⟩:=h.pre;obtain⟨v,hv⟩:=k.pre;exact⟨u++v,by rw[hv,hu,List.append_assoc]⟩⟩
def gr(ex:Ck->Int->Ck×Int)(c:Ck)(a:Int):Ck:=(ex c (c.ay a 0)).1.ap (!decide ((ex c (c.ay a 0)).2=0)) a
def iR(ex:Ck->Int->Ck×Int)(c:Ck)(a:Int):Ck:=if 0<=(gr ex c a).find (c.node a).name then(gr ex c a).aF 41 a else gr ex c a
def dz(ex:Ck->Int->Ck×Int)(c:Ck)(a:Int):Ck:=if 24<=(iR ex c a).size then(iR ex c a).aF 4 a else iR ex c a
def AN(c:Ck)(a:Int)(v:bC):Ck:={ (c.slot a c.size)with vars:=c.vars++[v],more:=c.more.drop 1,size:=c.size+1 }
theorem sc(ex:Ck->Int->Ck×Int)(c:Ck)(a:Int):oB ex c a=AN (dz ex c a) a ⟨(c.node a).name,(ex c (c.ay a 0)).2,(dz ex c a).size⟩:=rfl
theorem yi(hex:∀c a,Ev c (ex c a).1)(c:Ck)(a:Int):Ev c (gr ex c a):=(hex c _).trans (iG _ _ _)
theorem Bj(hex:∀c a,Ev c (ex c a).1)(c:Ck)(a:Int):Ev c (iR ex c a):=by
 unfold iR;split
 ·exact(yi hex c a).trans (mC _ jC a)
 ·exact yi hex c a
theorem wQ(hex:∀c a,Ev c (ex c a).1)(c:Ck)(a:Int):Ev c (dz ex c a):=by
 unfold dz;split
 ·exact(Bj hex c a).trans (mC _ jC a)
 ·exact Bj hex c a
theorem Mb{c:Ck}(h:(dz ex c a).e=0):(dz ex c a).size<24:=by
 unfold dz at h ⊢;split
 ·rename_i hs;rw[if_pos hs]at h;exfalso;unfold Ck.aF at h;split at h
  ·cases h
  ·contradiction
 ·omega
theorem Q9{c:Ck}(h:bu c)(a:Int)(v:bC)(h24:c.size<=24)(hr:c.e=0->c.size<24):Sv c (AN c a v):=by refine⟨rfl,rfl,rfl,id,⟨h.aa,h.types,by show(c.slots.set _ _).length=_;rw[List.length_set];exact h.slots,h.ao,h.aP,h.uQ,h.uC,?_,by show c.size+1<=25;omega,fun e=>by show c.size+1<=24;have:=hr e;omega⟩,[v],rfl⟩;show((c.vars++[v]).length:Int)<=c.size+1;have:=h.vars;simp;omega
theorem Qm(hex:∀c a,Ev c (ex c a).1){c:Ck}(h:bu c)(he:c.e=0)(a:Int):Sv c (oB ex c a):=by rw[sc];have s:=wQ hex c a;refine(Sv.ir h s).trans (Q9 (h.ev s) a _ ?_ Mb);rw[s.size];exact h.room he
theorem I4(hex:∀c a,Ev c (ex c a).1){c:Ck}(h:bu c)(a:Int):Sv c (jZ ex c a):=by
 refine Sv.ir h ?_;unfold jZ;simp only;split
 ·exact mC c jC a
 split
 ·exact(hex c _).trans (iG _ _ _)
 ·exact .refl c
theorem og{st:Ck->Int->Ck}(hst:∀c a,bu c->c.e=0->Sv c (st c a)):∀(l:List Int) (c:Ck),bu c->Sv c (de st c l)
 |[],c,h=>by unfold de;exact .refl h
 |a::l,c,h=>by
  unfold de;split
  ·rename_i he;have s:=hst c a h he;exact s.trans (og hst l _ s.inv)
  ·exact .refl h
theorem oZ{st:Ck->Int->Ck}(hst:∀c a,bu c->c.e=0->Sv c (st c a)){c:Ck}(h:bu c)(a:Int):Sv c (dZ st c a)/\(dZ st c a).vars=c.vars:=by
 have s:=(Sv.ir h (pw c a)).trans (og hst (c.node a).l _ (h.ev (pw c a)));obtain⟨u,hu⟩:=s.pre;have hv:(de st (c.ac a) (c.node a).l).vars.take (min c.vars.length (de st (c.ac a) (c.node a).l).vars.length)=c.vars:=by rw[hu,Nat.min_eq_left jE,List.take_left'];rfl
 have hi:=s.inv;refine⟨⟨s.aa,s.fn,s.aP,s.err,⟨hi.aa,hi.types,hi.slots,hi.ao,hi.aP,hi.uQ,hi.uC,?_,hi.size,hi.room⟩,[],by rw[List.append_nil];exact hv⟩,hv⟩;have:=hi.vars;show(((de st (c.ac a) (c.node a).l).vars.take _).length:Int)<=_;rw[List.length_take];show _<=(de st (c.ac a) (c.node a).l).size;omega
theorem kY:∀(n:Nat) (c:Ck) (a:Int),bu c->c.e=0->Sv c (bv n c a)
 |0,c,a,h,he=>by unfold bv;exact .refl h
 |n+1,c,a,h,he=>by
  have e0:=pw c a;have h0:=h.ev e0;have s0:=Sv.ir h e0;have hx:=dw n;unfold bv;simp only;repeat' split
  ·exact s0.trans (Qm hx h0 he a)
  ·exact s0.trans (Sv.ir h0 (((mG _ a).trans (hx _ _)).trans (iG _ _ _)))
  ·exact s0.trans (Sv.ir h0 ((((mG _ a).trans (hx _ _)).trans (hx _ _)).trans (iG _ _ _)))
  ·exact s0.trans (Sv.ir h0 (hx _ _))
  ·exact s0.trans (Sv.ir h0 ((hx _ _).trans (iG _ _ _)))
  ·exact s0.trans (I4 hx h0 a)
  ·have s1:=s0.trans (Sv.ir h0 ((hx (c.ac a) ((c.ac a).ay a 0)).trans (iG _ (decide ((ar n (c.ac a) ((c.ac a).ay a 0)).2=2)) a)));exact s1.trans (og (fun q b hq _=>(oZ (kY n) hq b).1) _ _ s1.inv)
def Am(n:Nat):Prop:=∀(c:Ck) (a:Int),bu c->c.e=0->0<=a->a<c.aa.nodes.length->a.toNat<n->dL (c.node a).kind->aj prog 216 [pR,rI a] (fC c) (fun v l=>v=.bj []/\l=fC (bv n c a))
def Iu(n:Nat):Prop:=∀(c:Ck) (a:Int),bu c->0<=a->a<c.aa.nodes.length->a.toNat<=n->(c.node a).kind=18->aj prog 152 [pR,rI a] (fC c) (fun v l=>v=.bj []/\l=fC (dZ (bv n) c a))
end Go.Proofs.YtfkgcobaheegbaaGreatDoor

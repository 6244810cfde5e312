/- Lemmas. No conditions. -/
import Derived.Test.YtfkgcobaheegbaaGreatDoorP8
import Derived.Test.YtfkgcobaheegbaaGreatDoorEvS
set_option linter.all false
set_option maxHeartbeats 4000000
set_option maxRecDepth 10000
namespace Go.Proofs.YtfkgcobaheegbaaGreatDoor
open Go Go.Gd Tryz
def tW(c:Ck):List AV:=[bt er 5 c.aa.nodes,bt fU 5 c.aa.ap,.rs 1 c.types.length 1 c.types.length,.rs 2 c.slots.length 1 c.slots.length,.rs 3 c.ap.length 1 c.ap.length,.rs 4 c.aM.length 1 c.aM.length,rI c.fn,.rs 5 (c.vars.length+c.more.length) 3 c.vars.length,rI c.size,rI c.e,rI c.at_]
def fk(c:Ck):List (Nat×Row):=[(0,.var 172 (tW c)),(1,.aO 3 1 (c.types.map eI)),(2,.aO 3 1 (c.slots.map eI)),(3,.aO 3 1 (c.ap.map eI)),(4,.aO 3 1 (c.aM.map eI)),(5,.aO 63 3 ((c.vars++c.more).map si))]
attribute [go_sem] fk tW Ck.slot Ck.note Ck.ac
structure bv(c:Ck):Prop where
 aa:aH c.aa
 types:c.types.length=c.aa.nodes.length
 slots:c.slots.length=c.aa.nodes.length
 ap:c.ap.length=c.aa.nodes.length
 aM:c.aM.length<=6
 ua:0<=c.fn
 u5:c.fn<c.aa.ap.length
 vars:(c.vars.length:Int)<=c.size
 size:c.size<=25
 room:c.e=0->c.size<=24
theorem vW{α:Type}(f:α->ByteArray)(nm:ByteArray):∀(l:List α) (i:Int),0<=i->(fX f nm l i=-1/\∀v∈l,f v≠nm)\/(i<=fX f nm l i/\fX f nm l i<i+l.length)
 |[],i,_=>.inl ⟨rfl,fun v hv=>by simp at hv⟩
 |v::l,i,hi=>by
  unfold fX;by_cases h:f v=nm
  ·rw[if_pos h];exact .inr jF
  ·rw[if_neg h]
   rcases vW f nm l (i+1) jB with⟨h1,h2⟩|h1
   ·exact .inl ⟨h1,fun u hu=>by
     rcases List.mem_cons.1 hu with rfl|hu
     ·exact h
     ·exact h2 u hu⟩
   ·exact .inr jF
theorem kP{α:Type}[Inhabited α]{l:List α}{i:Nat}(h:i<l.length):l.drop i=nth l i::l.drop (i+1):=by
 rw[dN h];exact List.drop_eq_getElem_cons h
theorem rT(c:Ck)(e a:Int):aj prog 150 [pR,rI e,rI a] (fk c) (fun v l=>v=.bg []/\l=fk (c.aE e a)):=by
 refine aU func150 ntmps150 ?_
 (refine S ?_;try exact jI)
 (repeat' (first|refine aA fun K hK=>?_|refine aC ?_|(refine hK _ _ ?_;clear hK K)|(refine aB ?_ ?_<;>intro hc<;>try exact jz)|refine az ?_|exact jI|(clear hK K)))
 ·(refine bV [] ?_ ?_<;>(try simp only[go_sem]))
  simp only[Ck.aE,if_pos hc,fk,tW]
 ·(refine bV [] ?_ ?_<;>(try simp only[go_sem]))
  simp only[Ck.aE,if_neg hc,fk,tW]
theorem B0(c:Ck)(nm:ByteArray)(h:bv c):aj prog 151 [pR,rS nm] (fk c) (fun v l=>v=rI (c.find nm)/\l=fk c):=by
 have h1:=h.vars;have h2:=h.size;refine aU func151 ntmps151 ?_
 (refine S ?_;try exact jI)
 (repeat' (first|refine aA fun K hK=>?_|refine aC ?_|(refine hK _ _ ?_;clear hK K)|(refine aB ?_ ?_<;>intro hc<;>try exact jz)|refine az ?_|exact jI|(clear hK K)))
 have hKo:=hK;clear hK;refine fm (S:=Nat) [(4,22)] (fun k=>k<=c.vars.length/\fX bC.name nm (c.vars.drop k) k=c.find nm) (fun k=>[(5,rI k)]) (fun _=>⟨[0,1,2,3,4,5],fk c⟩) (fun k=>c.vars.length-k) 0 ⟨jB,rfl⟩ (fi jD cX) ?_;rintro k ⟨hk1,hk2⟩ Kr hKr
 (refine S ?_;try exact jI)
 by_cases hk:k<c.vars.length
 ·rw[kP hk]at hk2
  unfold fX at hk2;have hap:nth (c.vars++c.more) k=nth c.vars k:=mS hk
  (have W:=hap;repeat' (first|refine aA fun K hK=>?_|refine aC ?_|(refine hK _ _ ?_;clear hK K)|(refine aB ?_ ?_<;>intro hc<;>try exact jz)|refine az ?_|exact jI|(clear hK K)));all_goals(try clear W)
  ·(refine bV [.tmp 4] ?_ ?_<;>(try simp only[go_sem]))
   rw[if_pos hc]at hk2;rw[<-hk2]
  ·rw[if_neg hc]at hk2
   refine hKr _ _ (fw (k+1) ⟨jB,by rw[<-hk2];rfl⟩ jJ jD cX)
 ·rw[List.drop_eq_nil_of_le jB]at hk2
  (repeat' (first|refine aA fun K hK=>?_|refine aC ?_|(refine hK _ _ ?_;clear hK K)|(refine aB ?_ ?_<;>intro hc<;>try exact jz)|refine hKo _ _ ?_|refine az ?_|exact jI|(clear hK K)))
  (refine bV [.tmp 4] ?_ ?_<;>(try simp only[go_sem]))
  rw[<-hk2];rfl
theorem nW(c:Ck)(b:Bool)(a:Int):aj prog 253 [pR,rB b,rI a] (fk c) (fun v l=>v=.bg []/\l=fk (c.aq b a)):=by
 refine aU func253 ntmps253 ?_
 (refine S ?_;try exact jI)
 (repeat' (first|refine aA fun K hK=>?_|refine aC ?_|(refine hK _ _ ?_;clear hK K)|(refine aB ?_ ?_<;>intro hc<;>try exact jz)|refine cm (rT c 42 a) ?_|refine az ?_|exact jI|(clear hK K)))
 ·(refine bV [] ?_ ?_<;>(try simp only[go_sem]))
  simp only[Ck.aq,hc,Bool.false_eq_true,if_false,fk,tW]
 ·(refine bV [] ?_ ?_<;>(try simp only[go_sem]))
  simp only[Ck.aq,hc,if_true,fk,tW]
variable{a:Int}
theorem uR{c:Ck}(h:bv c)(h0:0<=a)(h1:a<c.aa.nodes.length):Shape c.aa.nodes (c.node a)/\∀x∈(c.node a).l,0<=x/\x.toNat<a.toNat:=by
 have:=h.aa.shape a.toNat jB;exact⟨this.1,this.2.1⟩
theorem xS{c:Ck}(h:bv c)(h0:0<=a)(h1:a<c.aa.nodes.length):(c.node a).l.length<=300:=by
 obtain⟨_,_,lo,hc⟩:=h.aa.shape a.toNat jB;have:=hc.len;have:=h.aa.many;show(nth c.aa.nodes a.toNat).l.length<=300;omega
theorem D4(c:Ck)(a:Int)(h:bv c)(h0:0<=a)(h1:a<c.aa.nodes.length):aj prog 251 [pR,rI a] (fk c) (fun v l=>v=rI (c.named a).2/\l=fk (c.named a).1):=by
 have hv:=h.vars;have hz:=h.size;have hsl:=h.slots;have hfd:=vW bC.name (c.node a).name c.vars 0 jB;have hfc:=B0 c (c.node a).name h;have hfa:=rT c 40 a;have hap:0<=c.find (c.node a).name->nth (c.vars++c.more) (c.find (c.node a).name).toNat=nth c.vars (c.find (c.node a).name).toNat:=fun h=>mS (by
  have hfd:(c.find (c.node a).name=-1/\_)\/(0<=c.find (c.node a).name/\c.find (c.node a).name<0+c.vars.length):=hfd;omega)
 have hfd:(c.find (c.node a).name=-1/\_)\/(0<=c.find (c.node a).name/\c.find (c.node a).name<0+c.vars.length):=hfd;unfold Ck.named;by_cases hf:c.find (c.node a).name<0
 ·rw[if_pos hf]
  refine aU func251 ntmps251 ?_
  (refine S ?_;try exact jI)
  (repeat' (first|refine aA fun K hK=>?_|refine aC ?_|(refine hK _ _ ?_;clear hK K)|(refine aB ?_ ?_<;>intro hc<;>try exact jz)|refine cm (hfc) ?_|refine cm (hfa) ?_|refine az ?_|exact jI|(clear hK K)))
  (refine bV [.tmp 4] ?_ ?_<;>(try simp only[go_sem]))
 ·rw[if_neg hf]
  have hap:=hap jB;refine aU func251 ntmps251 ?_
  (refine S ?_;try exact jI)
  (have W:=hap;repeat' (first|refine aA fun K hK=>?_|refine aC ?_|(with_reducible refine gR 5 ?_);refine dE 5 [0,1,2,3,4,5,6,7,8,9,10,11,12,13,14,15] mixed ?_|(refine hK _ _ ?_;clear hK K)|(refine aB ?_ ?_<;>intro hc<;>try exact jz)|refine cm (hfc) ?_|refine az ?_|exact jI|(clear hK K)));all_goals(try clear W)
  (refine bV [.tmp 4] ?_ ?_<;>(try simp only[go_sem]))
structure Ev(c c':Ck):Prop where
 aa:c'.aa=c.aa
 fn:c'.fn=c.fn
 vars:c'.vars=c.vars
 more:c'.more=c.more
 size:c'.size=c.size
 aM:c'.aM=c.aM
 types:c'.types.length=c.types.length
 slots:c'.slots.length=c.slots.length
 ap:c'.ap.length=c.ap.length
 err:c.e≠0->c'.e≠0
theorem Ev.refl(c:Ck):Ev c c:=⟨rfl,rfl,rfl,rfl,rfl,rfl,rfl,rfl,rfl,id⟩
theorem Ev.trans{a b c:Ck}(h:Ev a b)(k:Ev b c):Ev a c:=⟨k.aa.trans h.aa,k.fn.trans h.fn,k.vars.trans h.vars,k.more.trans h.more,k.size.trans h.size,k.aM.trans h.aM,k.types.trans h.types,k.slots.trans h.slots,k.ap.trans h.ap,fun e=>k.err (h.err e)⟩
theorem bv.ev{c c':Ck}(h:bv c)(s:Ev c c'):bv c' where
 aa:=by rw[s.aa];exact h.aa
 types:=by rw[s.types,s.aa];exact h.types
 slots:=by rw[s.slots,s.aa];exact h.slots
 ap:=by rw[s.ap,s.aa];exact h.ap
 aM:=by rw[s.aM];exact h.aM
 ua:=by rw[s.fn];exact h.ua
 u5:=by rw[s.fn,s.aa];exact h.u5
 vars:=by rw[s.vars,s.size];exact h.vars
 size:=by rw[s.size];exact h.size
 room:=fun e=>by rw[s.size];exact h.room (Classical.byContradiction fun h=>s.err h e)
theorem Ev.node{c c':Ck}(s:Ev c c')(a:Int):c'.node a=c.node a:=by unfold Ck.node;rw[s.aa]
theorem Ev.aw{c c':Ck}(s:Ev c c')(a:Int)(i:Nat):c'.aw a i=c.aw a i:=by unfold Ck.aw;rw[s.node]
theorem mj(c:Ck){e:Int}(he:e≠0)(a:Int):Ev c (c.aE e a):=by
 unfold Ck.aE;split
 ·exact⟨rfl,rfl,rfl,rfl,rfl,rfl,rfl,rfl,rfl,fun _=>he⟩
 ·exact .refl c
theorem ir(c:Ck)(b:Bool)(a:Int):Ev c (c.aq b a):=by
 unfold Ck.aq;split
 ·exact .refl c
 ·exact mj c jC a
theorem HM(c:Ck)(a s:Int):Ev c (c.slot a s):=⟨rfl,rfl,rfl,rfl,rfl,rfl,rfl,by simp[Ck.slot],rfl,id⟩
theorem Ps(c:Ck)(a t:Int):Ev c (c.note a t):=⟨rfl,rfl,rfl,rfl,rfl,rfl,by simp[Ck.note],rfl,by simp[Ck.note],id⟩
theorem pe(c:Ck)(a:Int):Ev c (c.ac a):=⟨rfl,rfl,rfl,rfl,rfl,rfl,rfl,rfl,by simp[Ck.ac],id⟩
theorem l8(c:Ck)(a:Int):Ev c (c.named a).1:=by
 unfold Ck.named;split
 ·exact mj c jC a
 ·exact HM c a _
theorem qV{ex:Ck->Int->Ck×Int}(hex:∀c a,Ev c (ex c a).1):∀(l:List Int) (c:Ck) (ts:List Int),Ev c (fA ex c l ts).1
 |[],c,ts=>by unfold fA;exact .refl c
 |a::l,c,ts=>by
  unfold fA;split
  ·exact(hex c a).trans (qV hex l _ _)
  ·exact .refl c
theorem xQ(a:Int):∀(ts:List Int) (ps:List bD) (c:Ck),Ev c (gx a c ts ps)
 |[],_,c=>by unfold gx;exact .refl c
 |_::_,[],c=>by unfold gx;exact .refl c
 |t::ts,p::ps,c=>by
  unfold gx;split
  ·exact(ir c _ a).trans (xQ a ts ps _)
  ·exact .refl c
variable{ex:Ck->Int->Ck×Int}
theorem Iz(hex:∀c a,Ev c (ex c a).1)(c:Ck)(a:Int):Ev c (gh ex c a).1:=by
 unfold gh;split
 ·exact mj c jC a
 ·refine Ev.trans ?_ (xQ _ _ _ _)
  split
  ·exact(qV hex _ _ _).trans (mj _ jC a)
  ·exact qV hex _ _ _
theorem zM(hex:∀c a,Ev c (ex c a).1)(c:Ck)(a:Int):Ev c (bU ex c a).1:=by
 unfold bU;simp only;repeat' split
 all_goals first
  |exact .refl c
  |exact l8 c a
  |exact Iz hex c a
  |exact((l8 c a).trans (hex _ _)).trans (ir _ _ _)
  |exact((hex c _).trans (hex _ _)).trans (ir _ _ _)
  |exact(hex c _).trans (ir _ _ _)
theorem dp:∀(n:Nat) (c:Ck) (a:Int),Ev c (ar n c a).1
 |0,c,a=>by unfold ar;exact .refl c
 |n+1,c,a=>by
  unfold ar;split
  ·exact .refl c
  ·exact(zM (dp n) c a).trans (Ps _ _ _)
def th(n:Nat):Prop:=∀(c:Ck) (a:Int),bv c->0<=a->a<c.aa.nodes.length->a.toNat<n->dM (c.node a).kind->aj prog 252 [pR,rI a] (fk c) (fun v l=>v=rI (ar n c a).2/\l=fk (ar n c a).1)
def En(n:Nat):Prop:=∀(c:Ck) (a:Int),bv c->c.e=0->0<=a->a<c.aa.nodes.length->a.toNat<=n->dM (c.node a).kind->aj prog 272 [pR,rI a] (fk c) (fun v l=>v=rI (bU (ar n) c a).2/\l=fk (bU (ar n) c a).1)
def Eg(n:Nat):Prop:=∀(c:Ck) (a:Int),bv c->0<=a->a<c.aa.nodes.length->a.toNat<=n->(c.node a).kind=21->aj prog 284 [pR,rI a] (fk c) (fun v l=>v=rI (gh (ar n) c a).2/\l=fk (gh (ar n) c a).1)
theorem Ie(s:ByteArray)(a b:Int):dV prog 285 [rS s,rI a,rI b] (rI (gJ s a b)):=by
 refine eQ func285 ntmps285 ?_
 (repeat' (first|refine aA fun K hK=>?_|refine aC ?_|(refine hK _ _ ?_;clear hK K)|(refine aB ?_ ?_<;>intro hc<;>try exact jz)|refine az ?_|exact jI|(clear hK K)))
 all_goals(refine bV [.tmp 6] ?_ ?_<;>(try simp only[go_sem]))
 all_goals simp_all [gJ]
 all_goals omega
theorem MF(n:Nat)(ht:En n):th (n+1):=by
 intro c a h h0 h1 hn hk;have hz:=h.size;have hv:=h.vars;by_cases he:c.e=0
 ·have htc:=ht c a h he h0 h1 jB hk
  have s:=zM (dp n) c a;have h2:=h.ev s;have l1:=h2.types;have l2:=h2.ap;rw[s.aa]at l1 l2;rw[ar,jN];refine aU func252 ntmps252 ?_
  (refine S ?_;try exact jI)
  (repeat' (first|refine aA fun K hK=>?_|refine aC ?_|(with_reducible refine gR 5 ?_);refine dE 5 [0,1,2,3,4,5,6,7,8,9,10,11] mixed ?_|(refine hK _ _ ?_;clear hK K)|(refine aB ?_ ?_<;>intro hc<;>try exact jz)|refine cm (htc) ?_|refine az ?_|exact jI|(clear hK K)))
  (refine bV [.tmp 4] ?_ ?_<;>(try simp only[go_sem]))
 ·rw[ar,if_pos he]
  refine aU func252 ntmps252 ?_
  (refine S ?_;try exact jI)
  (repeat' (first|refine aA fun K hK=>?_|refine aC ?_|(refine hK _ _ ?_;clear hK K)|(refine aB ?_ ?_<;>intro hc<;>try exact jz)|refine az ?_|exact jI|(clear hK K)))
  (refine bV [.tmp 4] ?_ ?_<;>(try simp only[go_sem]))
theorem MJ(n:Nat)(hx:th n)(hcall:Eg n):En n:=by
 intro c a h he h0 h1 hn hk;have hz:=h.size;have hv:=h.vars;obtain⟨sh,hkid⟩:=uR h h0 h1;have hmem:∀i,i<(c.node a).l.length->(c.aw a i).toNat<n/\0<=c.aw a i/\c.aw a i<c.aa.nodes.length:=fun i hi=>by
  have hm:c.aw a i∈(c.node a).l:=dx hi;have:=hkid _ hm;omega
 have ev0:=l8 c a;have hn0:=h.ev ev0;have hnm:=D4 c a h h0 h1;unfold dM bO at hk;have e19:(c.node a).kind=1\/(c.node a).kind=19\/(c.node a).kind=2\/(c.node a).kind=3\/(c.node a).kind=4\/(c.node a).kind=21\/(c.node a).kind=5\/(c.node a).kind=9\/(c.node a).kind=6\/(c.node a).kind=7\/(c.node a).kind=8\/(c.node a).kind=20:=jB
 rcases e19 with k|k|k|k|k|k|k|k|k|k|k|k
 ·have hk':(nth c.aa.nodes a.toNat).kind=1:=k
  rw[show bU (ar n) c a=(c,1) from by unfold bU;rw[k];rfl];refine aU func272 ntmps272 ?_
  (refine S ?_;try exact jI)
  (have W:=hk';repeat' (first|refine aA fun K hK=>?_|refine aC ?_|(refine hK _ _ ?_;clear hK K)|(refine aB ?_ ?_<;>intro hc<;>try exact jz)|refine az ?_|exact jI|(clear hK K)));all_goals(try clear W)
  (refine bH [.tmp 4] ?_;try simp only[go_sem])
 ·have hk':(nth c.aa.nodes a.toNat).kind=19:=k
  rw[show bU (ar n) c a=(c,1) from by unfold bU;rw[k];rfl];refine aU func272 ntmps272 ?_
  (refine S ?_;try exact jI)
  (have W:=hk';repeat' (first|refine aA fun K hK=>?_|refine aC ?_|(refine hK _ _ ?_;clear hK K)|(refine aB ?_ ?_<;>intro hc<;>try exact jz)|refine az ?_|exact jI|(clear hK K)));all_goals(try clear W)
  (refine bH [.tmp 4] ?_;try simp only[go_sem])
 ·have hk':(nth c.aa.nodes a.toNat).kind=2:=k
  rw[show bU (ar n) c a=(c,2) from by unfold bU;rw[k];rfl];refine aU func272 ntmps272 ?_
  (refine S ?_;try exact jI)
  (have W:=hk';repeat' (first|refine aA fun K hK=>?_|refine aC ?_|(refine hK _ _ ?_;clear hK K)|(refine aB ?_ ?_<;>intro hc<;>try exact jz)|refine az ?_|exact jI|(clear hK K)));all_goals(try clear W)
  (refine bH [.tmp 4] ?_;try simp only[go_sem])
 ·have hk':(nth c.aa.nodes a.toNat).kind=3:=k
  rw[show bU (ar n) c a=(c,3) from by unfold bU;rw[k];rfl];refine aU func272 ntmps272 ?_
  (refine S ?_;try exact jI)
  (have W:=hk';repeat' (first|refine aA fun K hK=>?_|refine aC ?_|(refine hK _ _ ?_;clear hK K)|(refine aB ?_ ?_<;>intro hc<;>try exact jz)|refine az ?_|exact jI|(clear hK K)));all_goals(try clear W)
  (refine bH [.tmp 4] ?_;try simp only[go_sem])
 ·have hk':(nth c.aa.nodes a.toNat).kind=4:=k
  rw[show bU (ar n) c a=c.named a from by unfold bU;rw[k];rfl];refine aU func272 ntmps272 ?_
  (refine S ?_;try exact jI)
  (have W:=hk';repeat' (first|refine aA fun K hK=>?_|refine aC ?_|(refine hK _ _ ?_;clear hK K)|(refine aB ?_ ?_<;>intro hc<;>try exact jz)|refine cm (hnm) ?_|refine az ?_|exact jI|(clear hK K)));all_goals(try clear W)
  (refine bH [.tmp 4] ?_;try simp only[go_sem])
 ·have hk':(nth c.aa.nodes a.toNat).kind=21:=k
  rw[show bU (ar n) c a=gh (ar n) c a from by unfold bU;rw[k];rfl];have hcl:=hcall c a h h0 h1 hn k;refine aU func272 ntmps272 ?_
  (refine S ?_;try exact jI)
  (have W:=hk';repeat' (first|refine aA fun K hK=>?_|refine aC ?_|(refine hK _ _ ?_;clear hK K)|(refine aB ?_ ?_<;>intro hc<;>try exact jz)|refine cm (hcl) ?_|refine az ?_|exact jI|(clear hK K)));all_goals(try clear W)
  (refine bH [.tmp 4] ?_;try simp only[go_sem])
 ·have hk':(nth c.aa.nodes a.toNat).kind=5:=k
  obtain⟨x,hl,hxe⟩:=sh.one jB;have hl1:(c.node a).l.length=1:=by rw[hl];rfl
  have hl':(nth c.aa.nodes a.toNat).l.length=1:=hl1;obtain⟨g1,g2,g3⟩:=hmem 0 jB;have hkx:dM (c.node (c.aw a 0)).kind:=by
   have:c.aw a 0=x:=by unfold Ck.aw;rw[hl];rfl
   rw[this];exact .inl hxe
  have hex:=hx (c.named a).1 (c.aw a 0) hn0 g2 (by rw[ev0.aa];exact g3) g1 (by rw[ev0.node];exact hkx);have hm:=nW (ar n (c.named a).1 (c.aw a 0)).1 (decide ((c.named a).2=4) && decide ((ar n (c.named a).1 (c.aw a 0)).2=1)) a;rw[show bU (ar n) c a=((ar n (c.named a).1 (c.aw a 0)).1.aq (decide ((c.named a).2=4) && decide ((ar n (c.named a).1 (c.aw a 0)).2=1)) a,1) from by unfold bU;rw[k];rfl];refine aU func272 ntmps272 ?_
  (refine S ?_;try exact jI)
  (have W:=hk';repeat' (first|refine aA fun K hK=>?_|refine aC ?_|(refine hK _ _ ?_;clear hK K)|(refine aB ?_ ?_<;>intro hc<;>try exact jz)|refine cm (hnm) ?_|refine cm (hex) ?_|refine cm (hm) ?_|refine az ?_|exact jI|(clear hK K)));all_goals(try clear W)
  (refine bH [.tmp 4] ?_;try simp only[go_sem])
 ·have hk':(nth c.aa.nodes a.toNat).kind=9:=k
  obtain⟨x,y,hl,hxe,hye⟩:=sh.two jB;have hl1:(c.node a).l.length=2:=by rw[hl];rfl
  have hl':(nth c.aa.nodes a.toNat).l.length=2:=hl1;obtain⟨g1,g2,g3⟩:=hmem 0 jB;obtain⟨g4,g5,g6⟩:=hmem 1 jB;have hkx:dM (c.node (c.aw a 0)).kind:=by
   have:c.aw a 0=x:=by unfold Ck.aw;rw[hl];rfl
   rw[this];exact .inl hxe
  have hky:dM (c.node (c.aw a 1)).kind:=by
   have:c.aw a 1=y:=by unfold Ck.aw;rw[hl];rfl
   rw[this];exact .inl hye
  have ev1:=dp n c (c.aw a 0);have hex:=hx c (c.aw a 0) h g2 g3 g1 hkx;have hey:=hx (ar n c (c.aw a 0)).1 (c.aw a 1) (h.ev ev1) g5 (by rw[ev1.aa];exact g6) g4 (by rw[ev1.node];exact hky);have hb:=Ie (c.node a).name (ar n c (c.aw a 0)).2 (ar n (ar n c (c.aw a 0)).1 (c.aw a 1)).2;have hm:=nW (ar n (ar n c (c.aw a 0)).1 (c.aw a 1)).1 (!decide (gJ (c.node a).name (ar n c (c.aw a 0)).2 (ar n (ar n c (c.aw a 0)).1 (c.aw a 1)).2=0)) a;rw[show bU (ar n) c a=((ar n (ar n c (c.aw a 0)).1 (c.aw a 1)).1.aq (!decide (gJ (c.node a).name (ar n c (c.aw a 0)).2 (ar n (ar n c (c.aw a 0)).1 (c.aw a 1)).2=0)) a,gJ (c.node a).name (ar n c (c.aw a 0)).2 (ar n (ar n c (c.aw a 0)).1 (c.aw a 1)).2) from by unfold bU;rw[k];rfl];refine aU func272 ntmps272 ?_
  (refine S ?_;try exact jI)
  (have W:=hk';repeat' (first|refine aA fun K hK=>?_|refine aC ?_|(refine hK _ _ ?_;clear hK K)|(refine aB ?_ ?_<;>intro hc<;>try exact jz)|refine cm (hex) ?_|refine cm (hey) ?_|refine cp (hb) ?_|refine cm (hm) ?_|refine az ?_|exact jI|(clear hK K)));all_goals(try clear W)
  (refine bH [.tmp 4] ?_;try simp only[go_sem])
 ·have hk':(nth c.aa.nodes a.toNat).kind=6:=k
  obtain⟨x,hl,hxe⟩:=sh.one jB;have hl1:(c.node a).l.length=1:=by rw[hl];rfl
  have hl':(nth c.aa.nodes a.toNat).l.length=1:=hl1;obtain⟨g1,g2,g3⟩:=hmem 0 jB;have hkx:dM (c.node (c.aw a 0)).kind:=by
   have:c.aw a 0=x:=by unfold Ck.aw;rw[hl];rfl
   rw[this];exact .inl hxe
  have hex:=hx c (c.aw a 0) h g2 g3 g1 hkx;have hm:=nW (ar n c (c.aw a 0)).1 (decide ((ar n c (c.aw a 0)).2=3) || decide ((ar n c (c.aw a 0)).2=4)) a;rw[show bU (ar n) c a=((ar n c (c.aw a 0)).1.aq (decide ((ar n c (c.aw a 0)).2=3) || decide ((ar n c (c.aw a 0)).2=4)) a,1) from by unfold bU;rw[k];rfl];refine aU func272 ntmps272 ?_
  (refine S ?_;try exact jI)
  (have W:=hk';repeat' (first|refine aA fun K hK=>?_|refine aC ?_|(refine hK _ _ ?_;clear hK K)|(refine aB ?_ ?_<;>intro hc<;>try exact jz)|refine cm (hex) ?_|refine cm (hm) ?_|refine az ?_|exact jI|(clear hK K)));all_goals(try clear W)
  (refine bH [.tmp 4] ?_;try simp only[go_sem])
 ·have hk':(nth c.aa.nodes a.toNat).kind=7:=k
  obtain⟨x,hl,hxe⟩:=sh.one jB;have hl1:(c.node a).l.length=1:=by rw[hl];rfl
  have hl':(nth c.aa.nodes a.toNat).l.length=1:=hl1;obtain⟨g1,g2,g3⟩:=hmem 0 jB;have hkx:dM (c.node (c.aw a 0)).kind:=by
   have:c.aw a 0=x:=by unfold Ck.aw;rw[hl];rfl
   rw[this];exact .inl hxe
  have hex:=hx c (c.aw a 0) h g2 g3 g1 hkx;have hm:=nW (ar n c (c.aw a 0)).1 (decide ((ar n c (c.aw a 0)).2=1)) a;rw[show bU (ar n) c a=((ar n c (c.aw a 0)).1.aq (decide ((ar n c (c.aw a 0)).2=1)) a,1) from by unfold bU;rw[k];rfl];refine aU func272 ntmps272 ?_
  (refine S ?_;try exact jI)
  (have W:=hk';repeat' (first|refine aA fun K hK=>?_|refine aC ?_|(refine hK _ _ ?_;clear hK K)|(refine aB ?_ ?_<;>intro hc<;>try exact jz)|refine cm (hex) ?_|refine cm (hm) ?_|refine az ?_|exact jI|(clear hK K)));all_goals(try clear W)
  (refine bH [.tmp 4] ?_;try simp only[go_sem])
 ·have hk':(nth c.aa.nodes a.toNat).kind=8:=k
  obtain⟨x,hl,hxe⟩:=sh.one jB;have hl1:(c.node a).l.length=1:=by rw[hl];rfl
  have hl':(nth c.aa.nodes a.toNat).l.length=1:=hl1;obtain⟨g1,g2,g3⟩:=hmem 0 jB;have hkx:dM (c.node (c.aw a 0)).kind:=by
   have:c.aw a 0=x:=by unfold Ck.aw;rw[hl];rfl
   rw[this];exact .inl hxe
  have hex:=hx c (c.aw a 0) h g2 g3 g1 hkx;have hm:=nW (ar n c (c.aw a 0)).1 (decide ((ar n c (c.aw a 0)).2=2)) a;rw[show bU (ar n) c a=((ar n c (c.aw a 0)).1.aq (decide ((ar n c (c.aw a 0)).2=2)) a,2) from by unfold bU;rw[k];rfl];refine aU func272 ntmps272 ?_
  (refine S ?_;try exact jI)
  (have W:=hk';repeat' (first|refine aA fun K hK=>?_|refine aC ?_|(refine hK _ _ ?_;clear hK K)|(refine aB ?_ ?_<;>intro hc<;>try exact jz)|refine cm (hex) ?_|refine cm (hm) ?_|refine az ?_|exact jI|(clear hK K)));all_goals(try clear W)
  (refine bH [.tmp 4] ?_;try simp only[go_sem])
 ·have hk':(nth c.aa.nodes a.toNat).kind=20:=k
  obtain⟨x,hl,hxe⟩:=sh.one jB;have hl1:(c.node a).l.length=1:=by rw[hl];rfl
  have hl':(nth c.aa.nodes a.toNat).l.length=1:=hl1;obtain⟨g1,g2,g3⟩:=hmem 0 jB;have hkx:dM (c.node (c.aw a 0)).kind:=by
   have:c.aw a 0=x:=by unfold Ck.aw;rw[hl];rfl
   rw[this];exact .inl hxe
  have hex:=hx c (c.aw a 0) h g2 g3 g1 hkx;have hm:=nW (ar n c (c.aw a 0)).1 (decide ((ar n c (c.aw a 0)).2=1)) a;rw[show bU (ar n) c a=((ar n c (c.aw a 0)).1.aq (decide ((ar n c (c.aw a 0)).2=1)) a,4) from by unfold bU;rw[k];rfl];refine aU func272 ntmps272 ?_
  (refine S ?_;try exact jI)
  (have W:=hk';repeat' (first|refine aA fun K hK=>?_|refine aC ?_|(refine hK _ _ ?_;clear hK K)|(refine aB ?_ ?_<;>intro hc<;>try exact jz)|refine cm (hex) ?_|refine cm (hm) ?_|refine az ?_|exact jI|(clear hK K)));all_goals(try clear W)
  (refine bH [.tmp 4] ?_;try simp only[go_sem])
theorem rD(a:Int)(c:Ck)(ps:List bD):gx a c [] ps=c:=by cases ps<;>rfl
theorem sj(a:Int)(c:Ck)(ts:List Int):gx a c ts []=c:=by cases ts<;>rfl
theorem EP{α:Type}(f:α->ByteArray)(nm:ByteArray):∀(l:List α) (i k:Int),0<=i->(iF f nm l i k=k\/i<=iF f nm l i k)/\(iF f nm l i k=k\/iF f nm l i k<i+l.length)
 |[],i,k,_=>by unfold iF;exact⟨.inl rfl,.inl rfl⟩
 |v::l,i,k,hi=>by
  unfold iF;obtain⟨h1,h2⟩:=EP f nm l (i+1) (if f v=nm then i else k) jB;simp only[List.length_cons];split at h1<;>rename_i hv
  ·rw[if_pos hv]at h2 ⊢
   omega
  ·rw[if_neg hv]at h2 ⊢
   omega
theorem HP(n:Nat)(hx:th n):Eg n:=by
 intro c a h h0 h1 hn hk;have hz:=h.size;have hv:=h.vars;have htf:=h.aa.ap;have htm:=h.aa.many;obtain⟨sh,hkid⟩:=uR h h0 h1;have hck:=h.aa.chain;have hlen:(nth c.aa.nodes a.toNat).l.length<=300:=xS h h0 h1;have hkk:∀i,i<(c.node a).l.length->dM (c.node (nth (c.node a).l i)).kind/\(nth (c.node a).l i).toNat<n/\0<=nth (c.node a).l i/\nth (c.node a).l i<c.aa.nodes.length:=fun i hi=>by
  have hm:nth (c.node a).l i∈(c.node a).l:=dx hi;have:=hkid _ hm;exact⟨.inl (sh.call hk _ hm),jB,this.1,jB⟩
 obtain⟨lg1,lg2⟩:=EP aW.name (c.node a).name c.aa.ap 0 (-1) jB;have lg1:fb c a=-1\/0<=fb c a:=lg1;have lg2:fb c a=-1\/fb c a<0+c.aa.ap.length:=lg2;refine aU func284 ntmps284 ?_
 (refine S ?_;try exact jI)
 (repeat' (first|refine aA fun K hK=>?_|refine aC ?_|(refine hK _ _ ?_;clear hK K)|(refine aB ?_ ?_<;>intro hc<;>try exact jz)|refine az ?_|exact jI|(clear hK K)))
 have hKo:=hK;clear hK;refine fm (S:=Nat×Int) [(6,2),(22,25)] (fun s=>s.1<=c.aa.ap.length/\iF aW.name (c.node a).name (c.aa.ap.drop s.1) s.1 s.2=fb c a) (fun s=>[(7,rI s.1),(6,rI s.2)]) (fun _=>⟨[0,1,2,3,4,5],fk c++[(6,.var 53 (er (c.node a)))]⟩) (fun s=>c.aa.ap.length-s.1) (0,-1) ⟨jJ,rfl⟩ (fi iW cX) ?_;rintro⟨k,j⟩ ⟨hk1,hk2⟩ Kr hKr;simp only at hk1 hk2
 (refine S ?_;try exact jI)
 by_cases hlt:k<c.aa.ap.length
 ·rw[kP hlt]at hk2
  unfold iF at hk2
  (repeat' (first|refine aA fun K hK=>?_|refine aC ?_|(with_reducible refine gR 6 ?_);refine dE 6 [0,1,2,3,4,5,6,7,8,9,10,11,12] mixed ?_|(refine hK _ _ ?_;clear hK K)|(refine aB ?_ ?_<;>intro hc<;>try exact jz)|refine az ?_|exact jI|(clear hK K)))
  ·rw[if_pos hc]at hk2
   refine hKr _ _ (fw (k+1,(k:Int)) ⟨jJ,by rw[<-hk2];rfl⟩ jJ iW cX)
  ·rw[if_neg hc]at hk2
   refine hKr _ _ (fw (k+1,j) ⟨jJ,by rw[<-hk2];rfl⟩ jJ iW cX)
 ·rw[List.drop_eq_nil_of_le jB]at hk2
  have hk2:j=fb c a:=hk2;subst hk2;by_cases hneg:fb c a<0
  ·rw[gh,if_pos hneg]at*
   (repeat' (first|refine aA fun K hK=>?_|refine aC ?_|(refine hK _ _ ?_;clear hK K)|(refine aB ?_ ?_<;>intro hc<;>try exact jz)|refine hKo _ _ ?_|refine cm (rT c 40 a) ?_|refine az ?_|exact jI|(clear hK K)))
   (refine bH [.tmp 4] ?_;try simp only[go_sem])
  ·have hnn:0<=fb c a:=jB
   have hcn:(fb c a).toNat<c.aa.ap.length:=jB
   have hfp:=(h.aa.fn _ (dx hcn)).2;have e0:gh (ar n) c a=(gx a (if(c.node a).l.length≠(nth c.aa.ap (fb c a).toNat).params.length then(fA (ar n) c (c.node a).l []).1.aE 43 a else(fA (ar n) c (c.node a).l []).1) (fA (ar n) c (c.node a).l []).2 (nth c.aa.ap (fb c a).toNat).params,(nth c.aa.ap (fb c a).toNat).ret):=by
    rw[gh,if_neg hneg]
   (repeat' (first|refine aA fun K hK=>?_|refine aC ?_|(refine hK _ _ ?_;clear hK K)|(refine aB ?_ ?_<;>intro hc<;>try exact jz)|refine hKo _ _ ?_|refine az ?_|exact jI|(clear hK K)))
   have hKo2:=hK;clear hK;refine iS (dz.nil 8 9 3 (sz:=1) rfl jC (Or.inr ⟨_,_,_,rfl,rfl⟩)) ?_
   (refine S ?_;try exact jI)
   refine fm (S:=Nat×Ck×List Int) [(9,3),(62,25)] (fun s=>s.1<=(c.node a).l.length/\Ev c s.2.1/\s.2.2.length=s.1/\fA (ar n) s.2.1 ((c.node a).l.drop s.1) s.2.2=fA (ar n) c (c.node a).l []) (fun s=>[(10,rI s.1),(9,.rs 8 s.2.2.length 1 s.2.2.length)]) (fun s=>⟨[0,1,2,3,4,5],fk s.2.1++[(6,.var 53 (er (c.node a))),(7,.var 100 (fU (nth c.aa.ap (fb c a).toNat))),(8,.aO 3 1 (s.2.2.map eI))]⟩) (fun s=>(c.node a).l.length-s.1) (0,c,[]) ⟨jJ,.refl c,rfl,rfl⟩ (fi iW cX) ?_;rintro⟨i,q,ts⟩ ⟨hi1,ev,hts,hA⟩ Kr2 hKr2;simp only at hi1 ev hts hA;have hq:=h.ev ev;have lt1:=hq.types;have lt2:=hq.slots;have lt3:=hq.ap;have lt4:=hq.vars;have lt5:=hq.size;have hlq:(c.node a).l.length<=300:=hlen
   (refine S ?_;try exact jI)
   by_cases hgo:i<(c.node a).l.length/\q.e=0
   ·obtain⟨hg1,hg2⟩:=hgo
    rw[kP hg1,fA,if_pos hg2]at hA;obtain⟨g1,g2,g3,g4⟩:=hkk i hg1;have hxc:=hx q (nth (c.node a).l i) hq g3 (by rw[ev.aa];exact g4) g2 (by rw[ev.node];exact g1)
    (have W:=hg2;repeat' (first|refine aA fun K hK=>?_|refine aC ?_|(refine hK _ _ ?_;clear hK K)|(refine aB ?_ ?_<;>intro hc<;>try exact jz)|refine cm (hxc) ?_|refine az ?_|exact jI|(clear hK K)));all_goals(try clear W)
    refine hKr2 _ _ (fw (i+1,(ar n q (nth (c.node a).l i)).1,ts++[(ar n q (nth (c.node a).l i)).2]) ⟨jJ,ev.trans (dp _ _ _),by simp[hts],hA⟩ jJ iW cX)
   have hA2:fA (ar n) c (c.node a).l []=(q,ts):=by
    rw[<-hA];by_cases hg1:i<(c.node a).l.length
    ·rw[kP hg1,fA,if_neg fun e=>hgo ⟨hg1,e⟩]
    ·rw[List.drop_eq_nil_of_le jB,fA]
   have hq1:q=(fA (ar n) c (c.node a).l []).1:=by rw[hA2]
   have hq2:ts=(fA (ar n) c (c.node a).l []).2:=by rw[hA2]
   by_cases hne:(c.node a).l.length≠(nth c.aa.ap (fb c a).toNat).params.length
   ·have hne':(((c.node a).l.length:Int)=((nth c.aa.ap (fb c a).toNat).params.length:Int))=False:=eq_false jB
    have hcx:(q.aE 43 a).e≠0:=by unfold Ck.aE;split;(exact fun h=>by cases h);assumption
    have evx:Ev c (q.aE 43 a):=ev.trans (mj q jC a);have hb:((q.aE 43 a)).e=0->ts.length<=(nth c.aa.ap (fb c a).toNat).params.length:=fun h=>(hcx h).elim
    (have W:=hne';repeat' (first|refine aA fun K hK=>?_|refine aC ?_|(refine hK _ _ ?_;clear hK K)|(refine aB ?_ ?_<;>intro hc<;>try exact jz)|(refine hKo2 _ _ ?_)|refine cm (rT q 43 a) ?_|refine az ?_|exact jI|(clear hK K)));all_goals(try clear W)
    have hKo3:=hK;clear hK;refine fm (S:=Nat×Ck) [(12,1),(97,27)] (fun s=>s.1<=ts.length/\Ev (q.aE 43 a) s.2/\gx a s.2 (ts.drop s.1) ((nth c.aa.ap (fb c a).toNat).params.drop s.1)=gx a (q.aE 43 a) ts (nth c.aa.ap (fb c a).toNat).params) (fun s=>[(12,rI s.1)]) (fun s=>⟨[0,1,2,3,4,5],fk s.2++[(6,.var 53 (er (c.node a))),(7,.var 100 (fU (nth c.aa.ap (fb c a).toNat))),(8,.aO 3 1 (ts.map eI))]⟩) (fun s=>ts.length-s.1) (0,(q.aE 43 a)) ⟨jJ,.refl _,rfl⟩ (fi iW cX) ?_;rintro⟨m,z⟩ ⟨hm1,hm2,hm3⟩ Kr3 hKr3;simp only at hm1 hm2 hm3
    (refine S ?_;try exact jI)
    by_cases hgo:m<ts.length/\z.e=0
    ·obtain⟨hg1,hg2⟩:=hgo
     have he1:((q.aE 43 a)).e=0:=Classical.byContradiction fun h=>hm2.err h hg2
     exact(hcx he1).elim
    ·have hz:z=gx a (q.aE 43 a) ts (nth c.aa.ap (fb c a).toNat).params:=by
      by_cases hg1:m<ts.length
      ·have hg2:z.e≠0:=fun e=>hgo ⟨hg1,e⟩
       rw[kP hg1]at hm3;cases hp:(nth c.aa.ap (fb c a).toNat).params.drop m with
       |nil=>rw[hp,sj]at hm3;exact hm3
       |cons x y=>rw[hp,gx,if_neg hg2]at hm3;exact hm3
      ·rw[List.drop_eq_nil_of_le jB,rD]at hm3
       exact hm3
     (repeat' (first|refine aA fun K hK=>?_|refine aC ?_|(refine hK _ _ ?_;clear hK K)|(refine aB ?_ ?_<;>intro hc<;>try exact jz)|(refine hKo3 _ _ ?_)|refine az ?_|exact jI|(clear hK K)))
     all_goals first|(exact absurd ⟨jB,by assumption⟩ hgo)|skip
     have e1:gh (ar n) c a=(z,(nth c.aa.ap (fb c a).toNat).ret):=by rw[e0,if_pos hne,<-hq1,<-hq2,hz]
     all_goals(
      rw[e1]
      (refine bH [.tmp 4] ?_;try simp only[go_sem]))
   ·have hne':((c.node a).l.length:Int)=((nth c.aa.ap (fb c a).toNat).params.length:Int):=jB
    have hcx:True:=trivial;have evx:Ev c q:=ev;have hb:(q).e=0->ts.length<=(nth c.aa.ap (fb c a).toNat).params.length:=fun _=>jB
    (have W:=hne';repeat' (first|refine aA fun K hK=>?_|refine aC ?_|(refine hK _ _ ?_;clear hK K)|(refine aB ?_ ?_<;>intro hc<;>try exact jz)|(refine hKo2 _ _ ?_)|refine az ?_|exact jI|(clear hK K)));all_goals(try clear W)
    have hKo3:=hK;clear hK;refine fm (S:=Nat×Ck) [(12,1),(97,27)] (fun s=>s.1<=ts.length/\Ev q s.2/\gx a s.2 (ts.drop s.1) ((nth c.aa.ap (fb c a).toNat).params.drop s.1)=gx a q ts (nth c.aa.ap (fb c a).toNat).params) (fun s=>[(12,rI s.1)]) (fun s=>⟨[0,1,2,3,4,5],fk s.2++[(6,.var 53 (er (c.node a))),(7,.var 100 (fU (nth c.aa.ap (fb c a).toNat))),(8,.aO 3 1 (ts.map eI))]⟩) (fun s=>ts.length-s.1) (0,q) ⟨jJ,.refl _,rfl⟩ (fi iW cX) ?_;rintro⟨m,z⟩ ⟨hm1,hm2,hm3⟩ Kr3 hKr3;simp only at hm1 hm2 hm3
    (refine S ?_;try exact jI)
    by_cases hgo:m<ts.length/\z.e=0
    ·obtain⟨hg1,hg2⟩:=hgo
     have he1:(q).e=0:=Classical.byContradiction fun h=>hm2.err h hg2
     have hmp:m<(nth c.aa.ap (fb c a).toNat).params.length:=by have:=hb he1;omega
     rw[kP hg1,kP hmp,gx,if_pos hg2]at hm3
     (have W:=hg2;repeat' (first|refine aA fun K hK=>?_|refine aC ?_|(with_reducible refine gR 23 ?_);refine dE 23 [0,1,2,3,4,5,6,7,8,9,10,11,12,13] mixed ?_|(refine hK _ _ ?_;clear hK K)|(refine aB ?_ ?_<;>intro hc<;>try exact jz)|refine cm (nW z (decide (nth ts m=(nth (nth c.aa.ap (fb c a).toNat).params m).ty)) a) ?_|refine az ?_|exact jI|(clear hK K)));all_goals(try clear W)
     refine hKr3 _ _ (fw (m+1,z.aq (decide (nth ts m=(nth (nth c.aa.ap (fb c a).toNat).params m).ty)) a) ⟨jJ,hm2.trans (ir _ _ _),hm3⟩ jJ iW cX)
    ·have hz:z=gx a q ts (nth c.aa.ap (fb c a).toNat).params:=by
      by_cases hg1:m<ts.length
      ·have hg2:z.e≠0:=fun e=>hgo ⟨hg1,e⟩
       rw[kP hg1]at hm3;cases hp:(nth c.aa.ap (fb c a).toNat).params.drop m with
       |nil=>rw[hp,sj]at hm3;exact hm3
       |cons x y=>rw[hp,gx,if_neg hg2]at hm3;exact hm3
      ·rw[List.drop_eq_nil_of_le jB,rD]at hm3
       exact hm3
     (repeat' (first|refine aA fun K hK=>?_|refine aC ?_|(refine hK _ _ ?_;clear hK K)|(refine aB ?_ ?_<;>intro hc<;>try exact jz)|(refine hKo3 _ _ ?_)|refine az ?_|exact jI|(clear hK K)))
     all_goals first|(exact absurd ⟨jB,by assumption⟩ hgo)|skip
     have e1:gh (ar n) c a=(z,(nth c.aa.ap (fb c a).toNat).ret):=by rw[e0,if_neg hne,<-hq1,<-hq2,hz]
     all_goals(
      rw[e1]
      (refine bH [.tmp 4] ?_;try simp only[go_sem]))
structure Sv(c c':Ck):Prop where
 aa:c'.aa=c.aa
 fn:c'.fn=c.fn
 aM:c'.aM=c.aM
 err:c.e≠0->c'.e≠0
 inv:bv c'
 pre:∃u,c'.vars=c.vars++u
theorem Sv.refl{c:Ck}(h:bv c):Sv c c:=⟨rfl,rfl,rfl,id,h,[],jE⟩
theorem Sv.gQ{c c':Ck}(h:bv c)(s:Ev c c'):Sv c c':=⟨s.aa,s.fn,s.aM,s.err,h.ev s,[],by rw[s.vars];simp⟩
theorem Sv.trans{a b c:Ck}(h:Sv a b)(k:Sv b c):Sv a c:=⟨k.aa.trans h.aa,k.fn.trans h.fn,k.aM.trans h.aM,fun e=>k.err (h.err e),k.inv,by
 obtain⟨u,hu⟩:=h.pre;obtain⟨v,hv⟩:=k.pre;exact⟨u++v,by rw[hv,hu,List.append_assoc]⟩⟩
def gg(ex:Ck->Int->Ck×Int)(c:Ck)(a:Int):Ck:=(ex c (c.aw a 0)).1.aq (!decide ((ex c (c.aw a 0)).2=0)) a
def iB(ex:Ck->Int->Ck×Int)(c:Ck)(a:Int):Ck:=if 0<=(gg ex c a).find (c.node a).name then(gg ex c a).aE 41 a else gg ex c a
def dq(ex:Ck->Int->Ck×Int)(c:Ck)(a:Int):Ck:=if 24<=(iB ex c a).size then(iB ex c a).aE 4 a else iB ex c a
def As(c:Ck)(a:Int)(v:bC):Ck:={ (c.slot a c.size)with vars:=c.vars++[v],more:=c.more.drop 1,size:=c.size+1 }
theorem sD(ex:Ck->Int->Ck×Int)(c:Ck)(a:Int):oj ex c a=As (dq ex c a) a ⟨(c.node a).name,(ex c (c.aw a 0)).2,(dq ex c a).size⟩:=rfl
theorem yC(hex:∀c a,Ev c (ex c a).1)(c:Ck)(a:Int):Ev c (gg ex c a):=(hex c _).trans (ir _ _ _)
theorem BC(hex:∀c a,Ev c (ex c a).1)(c:Ck)(a:Int):Ev c (iB ex c a):=by
 unfold iB;split
 ·exact(yC hex c a).trans (mj _ jC a)
 ·exact yC hex c a
theorem vN(hex:∀c a,Ev c (ex c a).1)(c:Ck)(a:Int):Ev c (dq ex c a):=by
 unfold dq;split
 ·exact(BC hex c a).trans (mj _ jC a)
 ·exact BC hex c a
theorem Jm{c:Ck}(h:(dq ex c a).e=0):(dq ex c a).size<24:=by
 unfold dq at h ⊢;split
 ·rename_i hs
  rw[if_pos hs]at h;exfalso;unfold Ck.aE at h;split at h
  ·cases h
  ·contradiction
 ·omega
theorem Ph{c:Ck}(h:bv c)(a:Int)(v:bC)(h24:c.size<=24)(hr:c.e=0->c.size<24):Sv c (As c a v):=by
 refine⟨rfl,rfl,rfl,id,⟨h.aa,h.types,by show(c.slots.set _ _).length=_;rw[List.length_set];exact h.slots,h.ap,h.aM,h.ua,h.u5,?_,by show c.size+1<=25;omega,fun e=>by show c.size+1<=24;have:=hr e;omega⟩,[v],rfl⟩;show((c.vars++[v]).length:Int)<=c.size+1;have:=h.vars;simp;omega
theorem IE(hex:∀c a,Ev c (ex c a).1){c:Ck}(h:bv c)(he:c.e=0)(a:Int):Sv c (oj ex c a):=by
 rw[sD];have s:=vN hex c a;refine(Sv.gQ h s).trans (Ph (h.ev s) a _ ?_ Jm);rw[s.size];exact h.room he
theorem KC(hex:∀c a,Ev c (ex c a).1){c:Ck}(h:bv c)(a:Int):Sv c (jw ex c a):=by
 refine Sv.gQ h ?_;unfold jw;simp only;split
 ·exact mj c jC a
 split
 ·exact(hex c _).trans (ir _ _ _)
 ·exact .refl c
theorem nL{st:Ck->Int->Ck}(hst:∀c a,bv c->c.e=0->Sv c (st c a)):∀(l:List Int) (c:Ck),bv c->Sv c (cY st c l)
 |[],c,h=>by unfold cY;exact .refl h
 |a::l,c,h=>by
  unfold cY;split
  ·rename_i he
   have s:=hst c a h he;exact s.trans (nL hst l _ s.inv)
  ·exact .refl h
theorem oz{st:Ck->Int->Ck}(hst:∀c a,bv c->c.e=0->Sv c (st c a)){c:Ck}(h:bv c)(a:Int):Sv c (dR st c a)/\(dR st c a).vars=c.vars:=by
 have s:=(Sv.gQ h (pe c a)).trans (nL hst (c.node a).l _ (h.ev (pe c a)));obtain⟨u,hu⟩:=s.pre;have hv:(cY st (c.ac a) (c.node a).l).vars.take (min c.vars.length (cY st (c.ac a) (c.node a).l).vars.length)=c.vars:=by
  rw[hu,Nat.min_eq_left jE,List.take_left'];rfl
 have hi:=s.inv;refine⟨⟨s.aa,s.fn,s.aM,s.err,⟨hi.aa,hi.types,hi.slots,hi.ap,hi.aM,hi.ua,hi.u5,?_,hi.size,hi.room⟩,[],by rw[List.append_nil];exact hv⟩,hv⟩;have:=hi.vars;show(((cY st (c.ac a) (c.node a).l).vars.take _).length:Int)<=_;rw[List.length_take];show _<=(cY st (c.ac a) (c.node a).l).size;omega
theorem kK:∀(n:Nat) (c:Ck) (a:Int),bv c->c.e=0->Sv c (bu n c a)
 |0,c,a,h,he=>by unfold bu;exact .refl h
 |n+1,c,a,h,he=>by
  have e0:=pe c a;have h0:=h.ev e0;have s0:=Sv.gQ h e0;have hx:=dp n;unfold bu;simp only;repeat' split
  ·exact s0.trans (IE hx h0 he a)
  ·exact s0.trans (Sv.gQ h0 (((l8 _ a).trans (hx _ _)).trans (ir _ _ _)))
  ·exact s0.trans (Sv.gQ h0 ((((l8 _ a).trans (hx _ _)).trans (hx _ _)).trans (ir _ _ _)))
  ·exact s0.trans (Sv.gQ h0 (hx _ _))
  ·exact s0.trans (Sv.gQ h0 ((hx _ _).trans (ir _ _ _)))
  ·exact s0.trans (KC hx h0 a)
  ·have s1:=s0.trans (Sv.gQ h0 ((hx (c.ac a) ((c.ac a).aw a 0)).trans (ir _ (decide ((ar n (c.ac a) ((c.ac a).aw a 0)).2=2)) a)))
   exact s1.trans (nL (fun q b hq _=>(oz (kK n) hq b).1) _ _ s1.inv)
def zY(n:Nat):Prop:=∀(c:Ck) (a:Int),bv c->c.e=0->0<=a->a<c.aa.nodes.length->a.toNat<n->dv (c.node a).kind->aj prog 216 [pR,rI a] (fk c) (fun v l=>v=.bg []/\l=fk (bu n c a))
def FK(n:Nat):Prop:=∀(c:Ck) (a:Int),bv c->0<=a->a<c.aa.nodes.length->a.toNat<=n->(c.node a).kind=18->aj prog 152 [pR,rI a] (fk c) (fun v l=>v=.bg []/\l=fk (dR (bu n) c a))
end Go.Proofs.YtfkgcobaheegbaaGreatDoor

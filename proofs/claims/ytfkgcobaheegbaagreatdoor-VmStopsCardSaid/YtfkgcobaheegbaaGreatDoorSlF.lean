/- Lemmas. No conditions. -/
import Derived.Test.YtfkgcobaheegbaaGreatDoorTyF
set_option linter.all false
namespace Go.Proofs.YtfkgcobaheegbaaGreatDoor
open Go Go.Gd
def iA(k:Int):Prop:=k=4\/k=5\/k=10\/k=11\/k=12
def bZ(c:Ck):Prop:=0<=c.size/\∀v∈c.vars,0<=v.slot/\v.slot<c.size
structure fG(t:az)(lo hi:Nat)(c c':Ck):Prop where
 sw:∀k,(k<lo\/hi<=k)->nth c'.slots k=nth c.slots k
 all:∀k,lo<=k->k<hi->iA (nth t.nodes k).kind->0<=nth c'.slots k/\nth c'.slots k<c'.size
 size:c.size<=c'.size
variable{t:az}{lo hi:Nat}
theorem fG.post{a b c:Ck}(h:fG t lo hi a b)(e:c.slots=b.slots)(z:c.size=b.size):fG t lo hi a c:=⟨fun k hk=>by rw[e];exact h.sw k hk,fun k h1 h2 h3=>by rw[e,z];exact h.all k h1 h2 h3,by rw[z];exact h.size⟩
theorem fG.pre{a b c:Ck}(e:b.slots=a.slots)(z:b.size=a.size)(h:fG t lo hi b c):fG t lo hi a c:=⟨fun k hk=>by rw[<-e];exact h.sw k hk,h.all,by rw[<-z];exact h.size⟩
theorem fG.refl(t:az)(lo:Nat)(c:Ck):fG t lo lo c c:=⟨fun _ _=>rfl,fun k h1 h2=>jB,Int.le_refl _⟩
theorem fG.seq{eZ:Nat}{a b c:Ck}(h0:lo<=eZ)(h1:eZ<=hi)(h:fG t lo eZ a b)(k:fG t eZ hi b c):fG t lo hi a c:=by
 have:=k.size;refine⟨fun i hi'=>(k.sw i jB).trans (h.sw i jB),fun i g1 g2 g3=>?_,by have:=h.size;omega⟩;by_cases e:i<eZ
 ·rw[k.sw i (.inl e)];have:=h.all i g1 e g3;omega
 ·exact k.all i jB g2 g3
variable{n:Nat}{c':Ck}
theorem fG.node{c:Ck}(h:fG t lo n c c')(hn:iA (nth t.nodes n).kind->0<=nth c'.slots n/\nth c'.slots n<c'.size):fG t lo (n+1) c c':=
 ⟨fun k hk=>h.sw k jB,fun k h1 h2 h3=>by
  by_cases e:k<n
  ·exact h.all k h1 e h3
  ·have:k=n:=jB;subst this;exact hn h3,h.size⟩
theorem Ei(c:Ck)(e a:Int):(c.aF e a).slots=c.slots/\(c.aF e a).size=c.size:=by unfold Ck.aF;split<;>exact⟨rfl,rfl⟩
theorem qU(c:Ck)(b:Bool)(a:Int):(c.ap b a).slots=c.slots/\(c.ap b a).size=c.size:=by unfold Ck.ap;split;exact⟨rfl,rfl⟩;exact Ei _ _ _
theorem fG.ap{t:az}{lo hi:Nat}{a c:Ck}{b:Bool}{x:Int}(h:fG t lo hi a c):fG t lo hi a (c.ap b x):=h.post (qU c b x).1 (qU c b x).2
theorem bZ.ev{c:Ck}(h:bZ c)(s:Ev c c'):bZ c':=by unfold bZ;rw[s.vars,s.size];exact h
variable{a:Int}
theorem B9{c:Ck}(h:bZ c)(hn:a.toNat=n)(hl:n<c.slots.length)(he:(c.named a).1.e=0):(∀k,k≠n->nth (c.named a).1.slots k=nth c.slots k)/\0<=nth (c.named a).1.slots n/\nth (c.named a).1.slots n<c.size:=by
 unfold Ck.named at he ⊢;split
 ·rename_i hf;rw[if_pos hf]at he;exact(mi jC he).elim
 ·rename_i hf;have hv:nth c.vars (c.find (c.node a).name).toNat∈c.vars:=by
   rcases wH bC.name (c.node a).name c.vars 0 jB with⟨h1,_⟩|h1
   ·exact(hf (by show gj bC.name (c.node a).name c.vars 0<0;rw[h1];decide)).elim
   ·exact dT (by show(gj bC.name (c.node a).name c.vars 0).toNat<_;omega)
  have hs:∀k,nth (c.slot a (nth c.vars (c.find (c.node a).name).toNat).slot).slots k=if n=k/\k<c.slots.length then(nth c.vars (c.find (c.node a).name).toNat).slot else nth c.slots k:=fun k=>by show nth (c.slots.set a.toNat _) k=_;rw[oJ,hn]
  refine⟨fun k hk=>by show nth (c.slot a _).slots k=_;rw[hs,jN],?_⟩;show 0<=nth (c.slot a _).slots n/\nth (c.slot a _).slots n<_;rw[hs,if_pos ⟨rfl,hl⟩];exact h.2 _ hv
def D7(t:az)(n:Nat):Prop:=∀(c:Ck) (a:Int) (lo:Nat),bu c->c.aa=t->bZ c->0<=a->a<t.nodes.length->a.toNat<n->dW (bt t.nodes a)->aG t.nodes lo (nth t.nodes a.toNat).l a.toNat->(ar n c a).1.e=0->fG t lo (a.toNat+1) c (ar n c a).1
theorem HN{t:az}{n:Nat}(hx:D7 t n):∀(L:List Int) (c:Ck) (ts:List Int) (lo hi:Nat),bu c->c.aa=t->bZ c->hi<=n->(∀x∈L,dW (bt t.nodes x))->aG t.nodes lo L hi->(fO (ar n) c L ts).1.e=0->fG t lo hi c (fO (ar n) c L ts).1
 |[],c,ts,lo,hi,h,hc,hv,hn,hr,hch,he=>by cases hch;unfold fO;exact .refl _ _ _
 |a::L,c,ts,lo,hi,h,hc,hv,hn,hr,hch,he=>by have e0:=(qz (dw n) (a::L) c ts).e0 he;unfold fO at he ⊢;rw[if_pos e0]at he ⊢;obtain⟨c1,c2,c3,c4,c5,c6⟩:=iz hch;have ev:=dw n c a;have e1:=(qz (dw n) L _ _).e0 he;have r1:=hx c a lo h hc hv c1 c2 jB (hr a jE) c5 e1;exact r1.seq jB jB (HN hx L _ _ _ hi (h.ev ev) (ev.aa.trans hc) (hv.ev ev) hn (fun x hx=>hr x (by simp[hx])) c6 he)
theorem HV(a:Int):∀(ts:List Int) (ps:List bE) (c:Ck),(gL a c ts ps).slots=c.slots/\(gL a c ts ps).size=c.size
 |[],ps,c=>by rw[rF];exact⟨rfl,rfl⟩
 |_::_,[],c=>by rw[rA];exact⟨rfl,rfl⟩
 |x::ts,p::ps,c=>by
  unfold gL;split
  ·have:=HV a ts ps (c.ap (decide (x=p.ty)) a);exact⟨this.1.trans (qU _ _ _).1,this.2.trans (qU _ _ _).2⟩
  ·exact⟨rfl,rfl⟩
theorem vu{t:az}(ht:aH t):∀n,D7 t n
 |0=>fun c a lo h hc hv h0 h1 hn=>by omega
 |n+1=>fun c a lo h hc hv h0 h1 hn hr hch he=>by
  have hx:=vu ht n;have e0:=(dw (n+1) c a).e0 he;unfold ar at he ⊢;rw[jN]at he ⊢;simp only at he ⊢;have he:(bV (ar n) c a).1.e=0:=he;have hnode:c.node a=nth t.nodes a.toNat:=by unfold Ck.node;rw[hc]
  have sh:=(ht.shape a.toNat jB).1;suffices hs:fG t lo (a.toNat+1) c (bV (ar n) c a).1 from hs.post rfl rfl
  have hlo:=hch.le;have leaf:(nth t.nodes a.toNat).l=[]->fG t lo a.toNat c c:=fun hl=>by
   rw[hl]at hch;have:lo=a.toNat:=by cases hch;rfl
   subst this;exact .refl _ _ _
  have kid1:∀x,(nth t.nodes a.toNat).l=[x]->dW (bt t.nodes x)->(ar n c x).1.e=0->fG t lo a.toNat c (ar n c x).1:=fun x hl hxr hxe=>by rw[hl]at hch;obtain⟨c1,c2,c3,c4,c5⟩:=jT hch;rw[c4];exact hx c x lo h hc hv c1 c2 jB hxr c5 hxe
  have kd:∀i,c.ay a i=nth (nth t.nodes a.toNat).l i:=fun i=>by unfold Ck.ay;rw[hnode]
  have hkr:(nth t.nodes a.toNat).kind=1\/(nth t.nodes a.toNat).kind=2\/(nth t.nodes a.toNat).kind=3\/(nth t.nodes a.toNat).kind=4\/(nth t.nodes a.toNat).kind=5\/(nth t.nodes a.toNat).kind=6\/(nth t.nodes a.toNat).kind=7\/(nth t.nodes a.toNat).kind=8\/(nth t.nodes a.toNat).kind=9\/(nth t.nodes a.toNat).kind=19\/(nth t.nodes a.toNat).kind=20\/(nth t.nodes a.toNat).kind=21:=by have:dW (nth t.nodes a.toNat).kind:=hr;unfold dW bQ at this;omega
  have hno:∀{q:Prop},¬((nth t.nodes a.toNat).kind=4\/(nth t.nodes a.toNat).kind=5)->iA (nth t.nodes a.toNat).kind->q:=fun h1 h2=>by unfold iA at h2;have:dW (nth t.nodes a.toNat).kind:=hr;unfold dW bQ at this;omega
  have hsl:a.toNat<c.slots.length:=by rw[h.slots,hc];omega
  rcases hkr with k|k|k|k|k|k|k|k|k|k|k|k
  ·have e:bV (ar n) c a=(c,1):=by unfold bV;simp only;rw[hnode,k];rfl
   rw[e];exact(leaf (sh.zero jB)).node (hno jB)
  ·have e:bV (ar n) c a=(c,2):=by unfold bV;simp only;rw[hnode,k];rfl
   rw[e];exact(leaf (sh.zero jB)).node (hno jB)
  ·have e:bV (ar n) c a=(c,3):=by unfold bV;simp only;rw[hnode,k];rfl
   rw[e];exact(leaf (sh.zero jB)).node (hno jB)
  ·have e:bV (ar n) c a=c.named a:=by unfold bV;simp only;rw[hnode,k];rfl
   rw[e]at he ⊢;obtain⟨g1,g2⟩:=B9 hv rfl hsl he;have hz:=(mG c a).size;have hl:=sh.zero jB;rw[hl]at hch;have:lo=a.toNat:=by cases hch;rfl
   subst this;exact⟨fun k hk=>g1 k jB,fun k h1 h2 _=>by have:k=a.toNat:=jB;subst this;rw[hz];exact g2,by rw[hz];exact Int.le_refl _⟩
  ·have e:bV (ar n) c a=((ar n (c.named a).1 (c.ay a 0)).1.ap (decide ((c.named a).2=4) && decide ((ar n (c.named a).1 (c.ay a 0)).2=1)) a,1):=by unfold bV;simp only;rw[hnode,k];rfl
   obtain⟨x,hl,hxe⟩:=sh.one jB;have hk0:c.ay a 0=x:=by rw[kd,hl];rfl
   rw[e]at he ⊢;rw[hk0]at he ⊢;obtain⟨b1,b2⟩:=im he;have en:=mG c a;obtain⟨g1,g2⟩:=B9 hv rfl hsl ((dw n _ x).e0 b2);rw[hl]at hch;obtain⟨c1,c2,c3,c4,c5⟩:=jT hch;have r:=hx (c.named a).1 x lo (h.ev en) (en.aa.trans hc) (hv.ev en) c1 c2 jB (.inl hxe) c5 b2;have hz:=en.size;have hrz:=r.size;rw[<-c4]at r;refine fG.ap ⟨fun k hk=>(r.sw k jB).trans (g1 k jB),fun k h1 h2 h3=>?_,jB⟩;by_cases hka:k<a.toNat
   ·exact r.all k h1 hka h3
   ·have:k=a.toNat:=jB;subst this;rw[r.sw _ (.inr jB)];omega
  ·have e:bV (ar n) c a=((ar n c (c.ay a 0)).1.ap (decide ((ar n c (c.ay a 0)).2=3) || decide ((ar n c (c.ay a 0)).2=4)) a,1):=by unfold bV;simp only;rw[hnode,k];rfl
   obtain⟨x,hl,hxe⟩:=sh.one jB;have hk0:c.ay a 0=x:=by rw[kd,hl];rfl
   rw[e]at he ⊢;rw[hk0]at he ⊢;exact((kid1 x hl (.inl hxe) (im he).2).ap).node (hno jB)
  ·have e:bV (ar n) c a=((ar n c (c.ay a 0)).1.ap (decide ((ar n c (c.ay a 0)).2=1)) a,1):=by unfold bV;simp only;rw[hnode,k];rfl
   obtain⟨x,hl,hxe⟩:=sh.one jB;have hk0:c.ay a 0=x:=by rw[kd,hl];rfl
   rw[e]at he ⊢;rw[hk0]at he ⊢;exact((kid1 x hl (.inl hxe) (im he).2).ap).node (hno jB)
  ·have e:bV (ar n) c a=((ar n c (c.ay a 0)).1.ap (decide ((ar n c (c.ay a 0)).2=2)) a,2):=by unfold bV;simp only;rw[hnode,k];rfl
   obtain⟨x,hl,hxe⟩:=sh.one jB;have hk0:c.ay a 0=x:=by rw[kd,hl];rfl
   rw[e]at he ⊢;rw[hk0]at he ⊢;exact((kid1 x hl (.inl hxe) (im he).2).ap).node (hno jB)
  ·have e:bV (ar n) c a=((ar n (ar n c (c.ay a 0)).1 (c.ay a 1)).1.ap (!decide (gY (c.node a).name (ar n c (c.ay a 0)).2 (ar n (ar n c (c.ay a 0)).1 (c.ay a 1)).2=0)) a,gY (c.node a).name (ar n c (c.ay a 0)).2 (ar n (ar n c (c.ay a 0)).1 (c.ay a 1)).2):=by unfold bV;simp only;rw[hnode,k];rfl
   obtain⟨x,y,hl,hxe,hye⟩:=sh.two jB;have hk0:c.ay a 0=x:=by rw[kd,hl];rfl
   have hk1:c.ay a 1=y:=by rw[kd,hl];rfl
   rw[e]at he ⊢;rw[hk0,hk1]at he ⊢;obtain⟨b1,b2⟩:=im he;have ev:=dw n c x;rw[hl]at hch;obtain⟨c1,c2,c3,c4,c5,c6⟩:=iz hch;obtain⟨d1,d2,d3,d4,d5⟩:=jT c6;have r1:=hx c x lo h hc hv c1 c2 jB (.inl hxe) c5 ((dw n _ y).e0 b2);have r2:=hx (ar n c x).1 y (x.toNat+1) (h.ev ev) (ev.aa.trans hc) (hv.ev ev) d1 d2 jB (.inl hye) d5 b2;rw[<-d4]at r2;exact((r1.seq jB jB r2).ap).node (hno jB)
  ·have e:bV (ar n) c a=(c,1):=by unfold bV;simp only;rw[hnode,k];rfl
   rw[e];exact(leaf (sh.zero jB)).node (hno jB)
  ·have e:bV (ar n) c a=((ar n c (c.ay a 0)).1.ap (decide ((ar n c (c.ay a 0)).2=1)) a,4):=by unfold bV;simp only;rw[hnode,k];rfl
   obtain⟨x,hl,hxe⟩:=sh.one jB;have hk0:c.ay a 0=x:=by rw[kd,hl];rfl
   rw[e]at he ⊢;rw[hk0]at he ⊢;exact((kid1 x hl (.inl hxe) (im he).2).ap).node (hno jB)
  ·have e:bV (ar n) c a=gq (ar n) c a:=by unfold bV;simp only;rw[hnode,k];rfl
   rw[e]at he ⊢;have hcall:=sh.call k;unfold gq at he ⊢;split at he
   ·exact(mi jC he).elim
   rename_i hf;rw[if_neg hf];simp only at he ⊢;have e1:=(yx a _ _ _).e0 he;split at e1
   ·exact(mi jC e1).elim
   rename_i hl;rw[if_neg hl];have r:=HN hx (c.node a).l c [] lo a.toNat h hc hv jB (fun x hx'=>.inl (hcall x (by rw[<-hnode];exact hx'))) (by rw[hnode];exact hch) e1;have q:=HV a (fO (ar n) c (c.node a).l []).2 (nth c.aa.ao (fz c a).toNat).params (fO (ar n) c (c.node a).l []).1;exact(r.post q.1 q.2).node (hno jB)
def DF(t:az)(n:Nat):Prop:=∀(c:Ck) (a:Int) (lo:Nat),bu c->c.aa=t->bZ c->c.e=0->0<=a->a<t.nodes.length->a.toNat<n->dL (bt t.nodes a)->aG t.nodes lo (nth t.nodes a.toNat).l a.toNat->(bv n c a).e=0->
 fG t lo (a.toNat+1) c (bv n c a)/\bZ (bv n c a)
theorem wN{t:az}{st:Ck->Int->Ck}{C:Int->Prop}{n:Nat}(hs:∀c a,bu c->c.e=0->Sv c (st c a))
  (hst:∀(c:Ck) (a:Int) (lo:Nat),bu c->c.aa=t->bZ c->c.e=0->0<=a->a<t.nodes.length->a.toNat<n->C (bt t.nodes a)->aG t.nodes lo (nth t.nodes a.toNat).l a.toNat->(st c a).e=0->fG t lo (a.toNat+1) c (st c a)/\bZ (st c a)) :
  ∀(L:List Int) (c:Ck) (lo hi:Nat),bu c->c.aa=t->bZ c->hi<=n->(∀x∈L,C (bt t.nodes x))->aG t.nodes lo L hi->(de st c L).e=0->fG t lo hi c (de st c L)/\bZ (de st c L)
 |[],c,lo,hi,h,hc,hv,hn,hr,hch,he=>by cases hch;unfold de;exact⟨.refl _ _ _,hv⟩
 |a::L,c,lo,hi,h,hc,hv,hn,hr,hch,he=>by have e0:=(og hs (a::L) c h).e0 he;unfold de at he ⊢;rw[if_pos e0]at he ⊢;obtain⟨c1,c2,c3,c4,c5,c6⟩:=iz hch;have s:=hs c a h e0;have e1:=(og hs L _ s.inv).e0 he;obtain⟨r1,v1⟩:=hst c a lo h hc hv e0 c1 c2 jB (hr a jE) c5 e1;obtain⟨r2,v2⟩:=wN hs hst L _ _ hi s.inv (s.aa.trans hc) v1 hn (fun x hx=>hr x (by simp[hx])) c6 he;exact⟨r1.seq jB jB r2,v2⟩
theorem zr(ht:aH t)(hst:DF t n)(c:Ck)(a:Int)(lo:Nat)(h:bu c)(hc:c.aa=t)(hv:bZ c)(h0:0<=a)(h1:a<t.nodes.length)(hn:a.toNat<=n)(hk:bt t.nodes a=18)(hch:aG t.nodes lo (nth t.nodes a.toNat).l a.toNat)(he:(dZ (bv n) c a).e=0) :
  fG t lo (a.toNat+1) c (dZ (bv n) c a)/\bZ (dZ (bv n) c a):=by
 have sv:=oZ (kY n) h a;have hnode:c.node a=nth t.nodes a.toNat:=by unfold Ck.node;rw[hc]
 have hb:=(ht.shape a.toNat jB).1.block hk;have ev:=pw c a;obtain⟨r,_⟩:=wN (kY n) (C:=dL) hst (c.node a).l (c.ac a) lo a.toNat (h.ev ev) (ev.aa.trans hc) (hv.ev ev) hn (fun x hx=>hb x (by rw[<-hnode];exact hx)) (by rw[hnode];exact hch) he;have r:fG t lo a.toNat c (dZ (bv n) c a):=fG.post (b:=de (bv n) (c.ac a) (c.node a).l) (fG.pre (a:=c) (b:=c.ac a) rfl rfl r) rfl rfl;have hk18:(nth t.nodes a.toNat).kind=18:=hk;refine⟨r.node (fun h=>by unfold iA at h;omega),?_⟩;have hz:=r.size;refine⟨by have:=hv.1;omega,fun v hv'=>?_⟩;rw[sv.2]at hv';have:=hv.2 v hv';omega
theorem vQ(ht:aH t){c0:Ck}{x:Int}(h:bu c0)(hc:c0.aa=t)(hv:bZ c0)(hn:a.toNat<=n)(hl:(nth t.nodes a.toNat).l=[x])(hx:dW (bt t.nodes x))(hch:aG t.nodes lo (nth t.nodes a.toNat).l a.toNat)(he:(ar n c0 x).1.e=0) :
  fG t lo a.toNat c0 (ar n c0 x).1:=by
 rw[hl]at hch;obtain⟨c1,c2,c3,c4,c5⟩:=jT hch;rw[c4];exact vu ht n c0 x lo h hc hv c1 c2 jB hx c5 he
theorem Ii(ht:aH t){c0:Ck}{x y:Int}(h:bu c0)(hc:c0.aa=t)(hv:bZ c0)(hn:a.toNat<=n)(hl:(nth t.nodes a.toNat).l=[x,y])(hx:bQ (bt t.nodes x))(hy:bQ (bt t.nodes y))(hch:aG t.nodes lo (nth t.nodes a.toNat).l a.toNat)(he:(ar n (ar n c0 x).1 y).1.e=0) :
  fG t lo a.toNat c0 (ar n (ar n c0 x).1 y).1:=by
 rw[hl]at hch;obtain⟨c1,c2,c3,c4,c5,c6⟩:=iz hch;obtain⟨d1,d2,d3,d4,d5⟩:=jT c6;have ev:=dw n c0 x;have r1:=vu ht n c0 x lo h hc hv c1 c2 jB (.inl hx) c5 ((dw n _ y).e0 he);have q1:=vu ht n (ar n c0 x).1 y (x.toNat+1) (h.ev ev) (ev.aa.trans hc) (hv.ev ev) d1 d2 jB (.inl hy) d5 he;rw[d4];exact r1.seq jB jB q1
theorem Hi{c:Ck}(h:bu c)(hc:c.aa=t)(hv:bZ c)(h1:a<t.nodes.length)(h0:0<=a)(hlo:lo<=a.toNat)(he:(c.named a).1.e=0)(r:fG t lo a.toNat (c.named a).1 c'):fG t lo (a.toNat+1) c c':=by
 have hsl:a.toNat<c.slots.length:=by rw[h.slots,hc];omega
 obtain⟨g1,g2⟩:=B9 hv rfl hsl he;have hz:=(mG c a).size;have hrz:=r.size;refine⟨fun k hk=>(r.sw k jB).trans (g1 k jB),fun k h1 h2 h3=>?_,jB⟩;by_cases hka:k<a.toNat
 ·exact r.all k h1 hka h3
 ·have:k=a.toNat:=jB;subst this;rw[r.sw _ (.inr jB)];omega
theorem uR{t:az}(ht:aH t):∀n,DF t n
 |0=>fun c a lo h hc hv e0 h0 h1 hn=>by omega
 |n+1=>fun c a lo h hc hv e0 h0 h1 hn hr hch he=>by
  have hs:=uR ht n;have hnode:(c.ac a).node a=nth t.nodes a.toNat:=by unfold Ck.node;show nth c.aa.nodes _=_;rw[hc]
  have sh:=(ht.shape a.toNat jB).1;have kd:∀i,(c.ac a).ay a i=nth (nth t.nodes a.toNat).l i:=fun i=>by unfold Ck.ay;rw[hnode]
  have ev:=pw c a;have h':=h.ev ev;have hc':=ev.aa.trans hc;have hv':=hv.ev ev;have hlo:=hch.le;have kr:∀{hi:Nat} {c':Ck},fG t lo hi (c.ac a) c'->fG t lo hi c c':=fun r=>fG.pre (a:=c) (b:=c.ac a) rfl rfl r
  have hno:∀{q:Prop},¬((nth t.nodes a.toNat).kind=10\/(nth t.nodes a.toNat).kind=11\/(nth t.nodes a.toNat).kind=12)->iA (nth t.nodes a.toNat).kind->q:=fun h1 h2=>by unfold iA at h2;have:dL (nth t.nodes a.toNat).kind:=hr;unfold dL at this;omega
  have hkr:(nth t.nodes a.toNat).kind=10\/(nth t.nodes a.toNat).kind=11\/(nth t.nodes a.toNat).kind=12\/(nth t.nodes a.toNat).kind=13\/(nth t.nodes a.toNat).kind=14\/(nth t.nodes a.toNat).kind=17\/(nth t.nodes a.toNat).kind=15\/(nth t.nodes a.toNat).kind=16:=by have:dL (nth t.nodes a.toNat).kind:=hr;unfold dL at this;omega
  rcases hkr with k|k|k|k|k|k|k
  ·have e:bv (n+1) c a=oB (ar n) (c.ac a) a:=by unfold bv;simp only;rw[hnode,k];rfl
   obtain⟨x,hl,hxr⟩:=sh.right jB;have hk0:(c.ac a).ay a 0=x:=by rw[kd,hl];rfl
   rw[e]at he ⊢;rw[sc]at he ⊢;have he:(dz (ar n) (c.ac a) a).e=0:=he;have hel:=wQ (dw n) (c.ac a) a;have hin:=h'.ev hel;have hvl:=hv'.ev hel;obtain⟨_,q1⟩:=tC jC he;have q1:dz (ar n) (c.ac a) a=iR (ar n) (c.ac a) a:=q1;rw[q1]at he;obtain⟨_,q2⟩:=tC jC he;have q2:iR (ar n) (c.ac a) a=gr (ar n) (c.ac a) a:=q2;rw[q2]at he;unfold gr at he;rw[hk0]at he;obtain⟨b1,b2⟩:=im he;have r1:=(vQ ht h' hc' hv' jB hl hxr hch b2);have hty:(dz (ar n) (c.ac a) a).slots=(ar n (c.ac a) x).1.slots:=by rw[q1,q2];unfold gr;rw[hk0];exact(qU _ _ _).1
   have hsz:(dz (ar n) (c.ac a) a).size=(ar n (c.ac a) x).1.size:=by rw[q1,q2];unfold gr;rw[hk0];exact(qU _ _ _).2
   have r2:=kr (r1.post hty hsz);have hsl:a.toNat<(dz (ar n) (c.ac a) a).slots.length:=by rw[hin.slots,hel.aa,hc'];omega
   have h0z:=hvl.1;have hs':∀i,nth ((dz (ar n) (c.ac a) a).slots.set a.toNat (dz (ar n) (c.ac a) a).size) i=if a.toNat=i/\i<(dz (ar n) (c.ac a) a).slots.length then(dz (ar n) (c.ac a) a).size else nth (dz (ar n) (c.ac a) a).slots i:=fun i=>oJ _ _ _ _
   refine⟨⟨fun i hi=>?_,fun i h1 h2 h3=>?_,?_⟩,?_,fun v hv2=>?_⟩
   ·show nth ((dz (ar n) (c.ac a) a).slots.set a.toNat _) i=_;rw[hs',jN];exact r2.sw i jB
   ·show 0<=nth ((dz (ar n) (c.ac a) a).slots.set a.toNat _) i/\nth ((dz (ar n) (c.ac a) a).slots.set a.toNat _) i<(dz (ar n) (c.ac a) a).size+1;rw[hs'];by_cases hia:i<a.toNat
    ·rw[jN];have:=r2.all i h1 hia h3;omega
    ·rw[if_pos ⟨jB,jB⟩];omega
   ·show _<=(dz (ar n) (c.ac a) a).size+1;have:=r2.size;omega
   ·show 0<=(dz (ar n) (c.ac a) a).size+1;omega
   ·show 0<=v.slot/\v.slot<(dz (ar n) (c.ac a) a).size+1;have hv2:v∈(dz (ar n) (c.ac a) a).vars++[(⟨((c.ac a).node a).name,(ar n (c.ac a) ((c.ac a).ay a 0)).2,(dz (ar n) (c.ac a) a).size⟩:bC)]:=hv2;rcases List.mem_append.1 hv2 with hm|hm
    ·have:=hvl.2 v hm;omega
    ·rw[List.mem_singleton.1 hm];show 0<=(dz (ar n) (c.ac a) a).size/\(dz (ar n) (c.ac a) a).size<_;omega
  ·have e:bv (n+1) c a=(ar n ((c.ac a).named a).1 ((c.ac a).ay a 0)).1.ap (decide (((c.ac a).named a).2=(ar n ((c.ac a).named a).1 ((c.ac a).ay a 0)).2)) a:=by unfold bv;simp only;rw[hnode,k];rfl
   obtain⟨x,hl,hxr⟩:=sh.right jB;have hk0:(c.ac a).ay a 0=x:=by rw[kd,hl];rfl
   rw[e]at he ⊢;rw[hk0]at he ⊢;obtain⟨b1,b2⟩:=im he;have en:=mG (c.ac a) a;have r1:=vQ ht (h'.ev en) (en.aa.trans hc') (hv'.ev en) jB hl hxr hch b2;exact⟨kr ((Hi h' hc' hv' h1 h0 hlo ((dw n _ x).e0 b2) r1).ap),(hv'.ev en).ev ((dw n _ _).trans (iG _ _ _))⟩
  ·have e:bv (n+1) c a=(ar n (ar n ((c.ac a).named a).1 ((c.ac a).ay a 0)).1 ((c.ac a).ay a 1)).1.ap (decide (((c.ac a).named a).2=4) && decide ((ar n ((c.ac a).named a).1 ((c.ac a).ay a 0)).2=1) && decide ((ar n (ar n ((c.ac a).named a).1 ((c.ac a).ay a 0)).1 ((c.ac a).ay a 1)).2=1)) a:=by unfold bv;simp only;rw[hnode,k];rfl
   obtain⟨x,y,hl,hxe,hye⟩:=sh.two jB;have hk0:(c.ac a).ay a 0=x:=by rw[kd,hl];rfl
   have hk1:(c.ac a).ay a 1=y:=by rw[kd,hl];rfl
   rw[e]at he ⊢;rw[hk0,hk1]at he ⊢;obtain⟨b1,b2⟩:=im he;have en:=mG (c.ac a) a;have r1:=Ii ht (h'.ev en) (en.aa.trans hc') (hv'.ev en) jB hl hxe hye hch b2;exact⟨kr ((Hi h' hc' hv' h1 h0 hlo ((dw n _ x).e0 ((dw n _ y).e0 b2)) r1).ap),(hv'.ev en).ev (((dw n _ _).trans (dw n _ _)).trans (iG _ _ _))⟩
  ·have e:bv (n+1) c a=(ar n (c.ac a) ((c.ac a).ay a 0)).1:=by unfold bv;simp only;rw[hnode,k];rfl
   obtain⟨x,hl,hxk⟩:=sh.nL k;have hk0:(c.ac a).ay a 0=x:=by rw[kd,hl];rfl
   rw[e]at he ⊢;rw[hk0]at he ⊢;have r1:=vQ ht h' hc' hv' jB hl (by rw[hxk];unfold dW;omega) hch he;exact⟨(kr r1).node (hno jB),hv'.ev (dw n _ _)⟩
  ·have e:bv (n+1) c a=(ar n (c.ac a) ((c.ac a).ay a 0)).1.ap (!decide ((ar n (c.ac a) ((c.ac a).ay a 0)).2=4)) a:=by unfold bv;simp only;rw[hnode,k];rfl
   obtain⟨x,hl,hxe⟩:=sh.one jB;have hk0:(c.ac a).ay a 0=x:=by rw[kd,hl];rfl
   rw[e]at he ⊢;rw[hk0]at he ⊢;obtain⟨b1,b2⟩:=im he;have r1:=vQ ht h' hc' hv' jB hl (.inl hxe) hch b2;exact⟨((kr r1).ap).node (hno jB),hv'.ev ((dw n _ _).trans (iG _ _ _))⟩
  ·have e:bv (n+1) c a=jZ (ar n) (c.ac a) a:=by unfold bv;simp only;rw[hnode,k];rfl
   rw[e]at he ⊢;unfold jZ at he ⊢;rw[hnode]at he ⊢;simp only at he ⊢;split at he
   ·exact(mi jC he).elim
   rename_i hf;rw[if_neg hf];rcases sh.ret k with hl|⟨x,hl,hxe⟩
   ·rw[hl];rw[if_neg jC];rw[hl]at hch;have:lo=a.toNat:=by cases hch;rfl
    subst this;exact⟨(kr (fG.refl t a.toNat (c.ac a))).node (hno jB),hv'⟩
   ·have hk0:(c.ac a).ay a 0=x:=by rw[kd,hl];rfl
    have hl1:(nth t.nodes a.toNat).l.length=1:=by rw[hl];rfl
    rw[if_pos hl1]at he ⊢;rw[hk0]at he ⊢;obtain⟨b1,b2⟩:=im he;have r1:=vQ ht h' hc' hv' jB hl (.inl hxe) hch b2;exact⟨((kr r1).ap).node (hno jB),hv'.ev ((dw n _ _).trans (iG _ _ _))⟩
  ·have e:bv (n+1) c a=de (dZ (bv n)) ((ar n (c.ac a) ((c.ac a).ay a 0)).1.ap (decide ((ar n (c.ac a) ((c.ac a).ay a 0)).2=2)) a) (((c.ac a).node a).l.drop 1):=by
    unfold bv;simp only;rw[hnode];rcases k with k|k<;>rw[k]<;>rfl
   have hsh:∃x L,(nth t.nodes a.toNat).l=x::L/\bQ (bt t.nodes x)/\∀y∈L,bt t.nodes y=18:=by
    rcases k with k|k
    ·obtain⟨x,y,hx,hy,hl|⟨z,hl,hz⟩⟩:=sh.kz k
     ·exact⟨x,[y],hl,hx,fun u hu=>by rw[List.mem_singleton.1 hu];exact hy⟩
     ·exact⟨x,[y,z],hl,hx,fun u hu=>by
       rcases List.mem_cons.1 hu with rfl|hu
       ·exact hy
       ·rw[List.mem_singleton.1 hu];exact hz⟩
    ·obtain⟨x,y,hl,hx,hy⟩:=sh.dS k;exact⟨x,[y],hl,hx,fun u hu=>by rw[List.mem_singleton.1 hu];exact hy⟩
   obtain⟨x,L,hl,hxe,hL⟩:=hsh;have hk0:(c.ac a).ay a 0=x:=by rw[kd,hl];rfl
   rw[e]at he ⊢;rw[hnode,hl,hk0]at he ⊢;have he:(de (dZ (bv n)) ((ar n (c.ac a) x).1.ap (decide ((ar n (c.ac a) x).2=2)) a) L).e=0:=he;show fG t lo (a.toNat+1) c (de (dZ (bv n)) ((ar n (c.ac a) x).1.ap (decide ((ar n (c.ac a) x).2=2)) a) L)/\bZ (de (dZ (bv n)) ((ar n (c.ac a) x).1.ap (decide ((ar n (c.ac a) x).2=2)) a) L);have ex:=(dw n (c.ac a) x).trans (iG _ (decide ((ar n (c.ac a) x).2=2)) a);have hin:=h'.ev ex;have hsb:∀(q:Ck) b,bu q->q.e=0->Sv q (dZ (bv n) q b):=fun q b hq _=>(oZ (kY n) hq b).1
   have e1:=(og hsb L _ hin).e0 he;obtain⟨b1,b2⟩:=im e1;rw[hl]at hch;obtain⟨c1,c2,c3,c4,c5,c6⟩:=iz hch;have r1:=vu ht n (c.ac a) x lo h' hc' hv' c1 c2 jB (.inl hxe) c5 b2;obtain⟨r2,v2⟩:=wN hsb (C:=fun k=>k=18) (n:=n) (fun q b l g1 g2 g3 _ g5 g6 g7 g8 g9 g10=>zr ht hs q b l g1 g2 g3 g5 g6 jB g8 g9 g10) L _ (x.toNat+1) a.toNat hin (ex.aa.trans hc') (hv'.ev ex) jB hL c6 he;exact⟨((kr r1.ap).seq jB jB r2).node (hno jB),v2⟩
theorem CD(body:Int):∀(ps:List bE) (c:Ck) (i:Int),bZ c->c.size=i->bZ (dU body c ps i)/\(dU body c ps i).slots=c.slots/\(dU body c ps i).size=i+ps.length
 |[],c,i,h,hi=>by unfold dU;exact⟨h,rfl,by simp;exact hi⟩
 |p::ps,c,i,h,hi=>by
  have fin:∀c1:Ck,Ev c c1->c1.slots=c.slots->bZ (dU body (kg c1 ⟨p.name,p.ty,i⟩) ps (i+1))/\(dU body (kg c1 ⟨p.name,p.ty,i⟩) ps (i+1)).slots=c.slots/\(dU body (kg c1 ⟨p.name,p.ty,i⟩) ps (i+1)).size=i+(p::ps).length:=fun c1 s e=>by
   have hz:=s.size;have h1:=h.ev s;have h0:=h.1;obtain⟨a,b,d⟩:=CD body ps (kg c1 ⟨p.name,p.ty,i⟩) (i+1) ⟨by show 0<=c1.size+1;omega,fun v hv=>by
    have hv:v∈c1.vars++[(⟨p.name,p.ty,i⟩:bC)]:=hv;show 0<=v.slot/\v.slot<c1.size+1;rcases List.mem_append.1 hv with hv|hv
    ·have:=h1.2 v hv;omega
    ·rw[List.mem_singleton.1 hv];show 0<=i/\i<_;omega⟩ (by show c1.size+1=i+1;omega)
   exact⟨a,b.trans e,by rw[d,List.length_cons];omega⟩
  unfold dU;simp only;split
  ·exact fin _ (mC c jC body) (Ei _ _ _).1
  ·exact fin _ (.refl c) rfl
structure sD(t:az)(sl:List Int)(k lo:Nat)(z:Int):Prop where
 wk:((nth t.ao k).params.length:Int)<=z
 hi:z<=24
 all:∀i,lo<=i->i<(nth t.ao k).body.toNat+1->iA (nth t.nodes i).kind->0<=nth sl i/\nth sl i<z
 chain:aG t.nodes lo (nth t.nodes (nth t.ao k).body.toNat).l (nth t.ao k).body.toNat
theorem sD.aY{sl sl':List Int}{k:Nat}{z:Int}(h:sD t sl k lo z)(e:∀i,i<(nth t.ao k).body.toNat+1->nth sl' i=nth sl i):sD t sl' k lo z:=⟨h.wk,h.hi,fun i h1 h2 h3=>by rw[e i h2];exact h.all i h1 h2 h3,h.chain⟩
theorem C4(ht:aH t){c:Ck}(h:fv c)(hc:c.aa=t){k:Nat}(hk:k<t.ao.length)(hsz:c.aP.length<6)(hch:aG t.nodes lo (nth t.nodes (nth t.ao k).body.toNat).l (nth t.ao k).body.toNat)(he:(fA c k).e=0) :
  (∀i,(i<lo\/(nth t.ao k).body.toNat+1<=i)->nth (fA c k).slots i=nth c.slots i)/\sD t (fA c k).slots k lo (fA c k).size/\(fA c k).aP=c.aP++[(fA c k).size]:=by
 have hk':k<c.aa.ao.length:=by rw[hc];exact hk
 have hp3:=h.aa.fn _ (dT hk');have hi0:bu { c with fn:=(k:Int),vars:=[],more:=[],size:=0 }:=⟨h.aa,h.types,h.slots,h.ao,by show c.aP.length<=6;omega,by show(0:Int)<=k;omega,by show(k:Int)<(c.aa.ao.length:Int);omega,by show((0:Nat):Int)<=0;omega,by show(0:Int)<=25;omega,fun _=>by show(0:Int)<=24;omega⟩;obtain⟨a,b,d⟩:=xy (nth c.aa.ao k).body (nth c.aa.ao k).params _ 0 hi0 (by show(0:Int)+_<=20;omega);obtain⟨a',b',d'⟩:=CD (nth c.aa.ao k).body (nth c.aa.ao k).params { c with fn:=(k:Int),vars:=[],more:=[],size:=0 } 0 ⟨by show(0:Int)<=0;omega,fun v hv=>by simp at hv⟩ rfl;have hbN:=oG ht hk;have hbk:=ht.body _ (dT hk);unfold fA at he ⊢;simp only at he ⊢;rw[hc]at he ⊢;rw[hc]at a b d a' b' d';split at he
 ·rename_i e1;rw[if_pos e1];have sv:=(oZ (kY t.nodes.length) a (nth t.ao k).body).1;obtain⟨r,_⟩:=zr ht (uR ht t.nodes.length) _ (nth t.ao k).body lo a (b.trans (by rfl)) a' hbN.1 hbN.2 (by have:=hbN.2;have:=hbN.1;omega) hbk hch he;have q:=fG.size r;have hroom:=sv.inv.room he;refine⟨fun i hi=>(r.sw i hi).trans (by rw[b']),⟨?_,hroom,r.all,hch⟩,?_⟩
  ·show _<=(dZ _ _ _).size;rw[d']at q;omega
  ·show(dZ _ _ _).aP++[_]=_;rw[sv.aP,d]
 ·rename_i e1;exact(e1 he).elim
def ow(t:az)(k:Nat):Nat:=if k=0 then 0 else(nth t.ao (k-1)).body.toNat+1
theorem F9{t:az}(ht:aH t):∀(n i lo:Nat) (c:Ck),fv c->c.aa=t->c.aP.length=i->i+n=t.ao.length->lo=ow t i->aG t.nodes lo ((t.ao.drop i).map (·.body)) t.nodes.length->(∀j,j<i->sD t c.slots j (ow t j) (nth c.aP j)/\(nth t.ao j).body.toNat<lo)->(fE c i n).e=0->
  ∀j,j<t.ao.length->sD t (fE c i n).slots j (ow t j) (nth (fE c i n).aP j)
 |0,i,lo,c,h,hc,hs,hi,hlo,hch,hA,he=>by unfold fE;exact fun j hj=>(hA j jB).1
 |n+1,i,lo,c,h,hc,hs,hi,hlo,hch,hA,he=>by
  have h6:=ht.ao;unfold fE at he ⊢;by_cases e0:c.e=0
  ·rw[if_pos e0]at he ⊢;have hk:i<t.ao.length:=jB;rw[lj hk]at hch;obtain⟨c1,c2,c3,c4,c5,c6⟩:=iz (a:=(nth t.ao i).body) hch;obtain⟨f1,f2,f3⟩:=vS h (by rw[hc];exact hk) (by omega:c.aP.length<6);have e1:(fA c i).e=0:=by
    cases n with
    |zero=>unfold fE at he;exact he
    |succ m=>
     unfold fE at he;split at he
     ·assumption
     ·exact he
   obtain⟨r1,r2,r3⟩:=C4 ht h hc hk jB c5 e1;refine F9 ht n (i+1) ((nth t.ao i).body.toNat+1) (fA c i) f1 (f2.trans hc) jB jB (by unfold ow;rw[jN];rfl) c6 (fun j hj=>?_) he;by_cases hji:j<i
   ·obtain⟨g1,g2⟩:=hA j hji;have hz:nth (fA c i).aP j=nth c.aP j:=by rw[r3,my jB]
    rw[hz];exact⟨g1.aY fun q hq=>r1 q (.inl jB),jB⟩
   ·have:j=i:=jB;subst this;have hz:nth (fA c j).aP j=(fA c j).size:=by rw[r3,<-hs];exact nM _ _
    rw[hz,<-hlo];exact⟨r2,jB⟩
  ·rw[if_neg e0]at he;exact(e0 he).elim
theorem EZ{x:aX}:∀(l:List aX) (c:Ck),(lP x c l).e=0->c.e=0/\∀f∈l,f.name≠x.name
 |[],c,h=>⟨by unfold lP at h;exact h,fun f hf=>by simp at hf⟩
 |f::l,c,h=>by
  unfold lP at h;obtain⟨h1,h2⟩:=EZ l _ h;obtain⟨h3,h4⟩:=tC jC h1;rw[h4]at h1;exact⟨h1,fun g hg=>by
   rcases List.mem_cons.1 hg with rfl|hg
   ·exact h3
   ·exact h2 g hg⟩
theorem G2(ao:List aX):∀(n i:Nat) (c:Ck) (m:Bool),i+n=ao.length->(kT ao c m i n).1.e=0->c.e=0/\(∀j,i<=j->j<ao.length->∀f∈ao.take j,f.name≠(nth ao j).name)/\((kT ao c m i n).2=true->m=true\/∃j,j<ao.length/\u6 (nth ao j)=true)
 |0,i,c,m,hi,h=>by unfold kT at h ⊢;exact⟨h,fun j h1 h2=>jB,fun h=>.inl h⟩
 |n+1,i,c,m,hi,h=>by
  unfold kT at h ⊢;obtain⟨h1,h2,h3⟩:=G2 ao n (i+1) _ _ jB h;obtain⟨h4,h5⟩:=EZ _ _ h1;refine⟨h4,fun j g1 g2=>?_,fun hm=>?_⟩
  ·by_cases e:j=i
   ·subst e;exact h5
   ·exact h2 j jB g2
  ·rcases h3 hm with h|h
   ·rcases Bool.or_eq_true _ _ |>.mp h with h|h
    ·exact .inl h
    ·exact .inr ⟨i,jB,h⟩
   ·exact .inr h
structure Af(t:az):Prop where
 one:∀i j,i<j->j<t.ao.length->(nth t.ao i).name≠(nth t.ao j).name
 main:∃j,j<t.ao.length/\u6 (nth t.ao j)=true
theorem QM{c:Ck}(h:(iY c).e=0):c.e=0/\Af c.aa:=by
 unfold iY at h;simp only at h;split at h
 ·rename_i hm;obtain⟨h1,h2,h3⟩:=G2 c.aa.ao c.aa.ao.length 0 c false jB h;refine⟨h1,⟨fun i j hi hj=>h2 j jB hj _ ?_,?_⟩⟩
  ·rw[dN jB];exact List.mem_take_iff_getElem.2 ⟨i,jB,rfl⟩
  ·rcases h3 hm with h|h
   ·cases h
   ·exact h
 ·exact(mi jC h).elim
theorem Dz(f:aX->ByteArray)(nm:ByteArray):∀(l:List aX) (i k:Int),(∀a b,a<b->b<l.length->f (nth l a)≠f (nth l b))->(∃v∈l,f v=nm)->iZ f nm l i k=gj f nm l i
 |[],i,k,h,hx=>by obtain⟨v,hv,_⟩:=hx;simp at hv
 |v::l,i,k,h,hx=>by
  unfold iZ gj;have hl:∀a b,a<b->b<l.length->f (nth l a)≠f (nth l b):=fun a b h1 h2=>h (a+1) (b+1) jB (by rw[List.length_cons];omega)
  by_cases hv:f v=nm
  ·rw[if_pos hv,if_pos hv];have hn:∀u∈l,f u≠nm:=fun u hu hh=>by
    obtain⟨q,hq,rfl⟩:=List.mem_iff_getElem.1 hu;exact h 0 (q+1) jB (by rw[List.length_cons];omega) (by rw[show nth (v::l) 0=v from rfl,show nth (v::l) (q+1)=l[q] from by rw[dN (by rw[List.length_cons];omega)];rfl,hv,hh])
   have:∀(l:List aX) (i k:Int),(∀u∈l,f u≠nm)->iZ f nm l i k=k:=fun l=>by
    induction l with
    |nil=>intro i k _;rfl
    |cons u l ih=> intro i k hu;unfold iZ;rw[if_neg (hu u jE),ih (i+1) k fun w hw=>hu w (by simp[hw])]
   exact this l _ _ hn
  ·rw[if_neg hv,if_neg hv];exact Dz f nm l (i+1) k hl (by
    obtain⟨u,hu,hh⟩:=hx;rcases List.mem_cons.1 hu with rfl|hu
    ·exact(hv hh).elim
    ·exact⟨u,hu,hh⟩)
structure dx(p:ab):Prop where
 ok:si p
 ao:∀j,j<p.aa.ao.length->sD p.aa p.slots j (ow p.aa j) (nth p.size j)
 names:Af p.aa
theorem Qi(ht:aH t)(he:(gP t).2.2=0):dx (gP t).1:=by
 have hp:=(Av ht he).1;unfold gP at he hp ⊢;split at he
 ·rename_i h;exact(h he).elim
 rename_i h;rw[if_neg h]at hp ⊢;have h:(iv t).e=0:=jB;obtain⟨i1,i2,i3⟩:=BP ht;have q:=F9 ht t.ao.length 0 0 (iY (jq t)) i1 i2 (by rw[i3];rfl) jB rfl (by rw[List.drop_zero];exact ht.chain) (fun j hj=>jB) h;obtain⟨_,q1,_⟩:=wy ht t.ao.length 0 0 (iY (jq t)) i1 i2 (by rw[i3];rfl) jB (by rw[List.drop_zero];exact ht.chain) h;have he:(iv t).aa=t:=q1;have h0:(iY (jq t)).e=0:=by
  have hpos:=h;unfold iv at hpos;cases hn:t.ao.length with
  |zero=>rw[hn]at hpos;unfold fE at hpos;exact hpos
  |succ m=>
   rw[hn]at hpos;unfold fE at hpos;split at hpos
   ·assumption
   ·exact hpos
 refine⟨hp,?_,?_⟩
 ·show∀j,j<(iv t).aa.ao.length->sD (iv t).aa (iv t).slots j (ow (iv t).aa j) (nth (iv t).aP j);rw[he];exact q
 ·show Af (iv t).aa;rw[he];exact(QM h0).2
theorem BO{s:ByteArray}(he:(gf s).2.2=0):dx (gf s).1:=by
 unfold gf at he ⊢;split at he
 ·rename_i h;exact(h he).elim
 rename_i h;rw[if_neg h];have h:(gH s).2.2=0:=jB;simp only at he ⊢;split at he
 ·cases he
 rename_i h2;split at he
 ·rename_i h3;exact(h3 he).elim
 rename_i h3;rw[if_neg h2,if_neg h3];exact Qi (xv h) jB
end Go.Proofs.YtfkgcobaheegbaaGreatDoor

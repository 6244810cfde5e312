/- Lemmas. No conditions. -/
import Derived.Test.YtfkgcobaheegbaaGreatDoorTyF
set_option linter.all false
namespace Go.Proofs.YtfkgcobaheegbaaGreatDoor
open Go Go.Gd
def ie(k:Int):Prop:=k=4\/k=5\/k=10\/k=11\/k=12
def bX(c:Ck):Prop:=0<=c.size/\∀v∈c.vars,0<=v.slot/\v.slot<c.size
structure fh(t:ax)(lo hi:Nat)(c c':Ck):Prop where
 sw:∀k,(k<lo\/hi<=k)->nth c'.slots k=nth c.slots k
 all:∀k,lo<=k->k<hi->ie (nth t.nodes k).kind->0<=nth c'.slots k/\nth c'.slots k<c'.size
 size:c.size<=c'.size
variable{t:ax}{lo hi:Nat}
theorem fh.post{a b c:Ck}(h:fh t lo hi a b)(e:c.slots=b.slots)(z:c.size=b.size):fh t lo hi a c:=⟨fun k hk=>by rw[e];exact h.sw k hk,fun k h1 h2 h3=>by rw[e,z];exact h.all k h1 h2 h3,by rw[z];exact h.size⟩
theorem fh.pre{a b c:Ck}(e:b.slots=a.slots)(z:b.size=a.size)(h:fh t lo hi b c):fh t lo hi a c:=⟨fun k hk=>by rw[<-e];exact h.sw k hk,h.all,by rw[<-z];exact h.size⟩
theorem fh.refl(t:ax)(lo:Nat)(c:Ck):fh t lo lo c c:=⟨fun _ _=>rfl,fun k h1 h2=>jB,Int.le_refl _⟩
theorem fh.seq{eT:Nat}{a b c:Ck}(h0:lo<=eT)(h1:eT<=hi)(h:fh t lo eT a b)(k:fh t eT hi b c):fh t lo hi a c:=by
 have:=k.size;refine⟨fun i hi'=>(k.sw i jB).trans (h.sw i jB),fun i g1 g2 g3=>?_,by have:=h.size;omega⟩;by_cases e:i<eT
 ·rw[k.sw i (.inl e)]
  have:=h.all i g1 e g3;omega
 ·exact k.all i jB g2 g3
variable{n:Nat}{c':Ck}
theorem fh.node{c:Ck}(h:fh t lo n c c')(hn:ie (nth t.nodes n).kind->0<=nth c'.slots n/\nth c'.slots n<c'.size):fh t lo (n+1) c c':=
 ⟨fun k hk=>h.sw k jB,fun k h1 h2 h3=>by
  by_cases e:k<n
  ·exact h.all k h1 e h3
  ·have:k=n:=jB
   subst this;exact hn h3,h.size⟩
theorem FJ(c:Ck)(e a:Int):(c.aE e a).slots=c.slots/\(c.aE e a).size=c.size:=by unfold Ck.aE;split<;>exact⟨rfl,rfl⟩
theorem qI(c:Ck)(b:Bool)(a:Int):(c.aq b a).slots=c.slots/\(c.aq b a).size=c.size:=by unfold Ck.aq;split;exact⟨rfl,rfl⟩;exact FJ _ _ _
theorem fh.aq{t:ax}{lo hi:Nat}{a c:Ck}{b:Bool}{x:Int}(h:fh t lo hi a c):fh t lo hi a (c.aq b x):=h.post (qI c b x).1 (qI c b x).2
theorem bX.ev{c:Ck}(h:bX c)(s:Ev c c'):bX c':=by unfold bX;rw[s.vars,s.size];exact h
variable{a:Int}
theorem AI{c:Ck}(h:bX c)(hn:a.toNat=n)(hl:n<c.slots.length)(he:(c.named a).1.e=0):(∀k,k≠n->nth (c.named a).1.slots k=nth c.slots k)/\0<=nth (c.named a).1.slots n/\nth (c.named a).1.slots n<c.size:=by
 unfold Ck.named at he ⊢;split
 ·rename_i hf
  rw[if_pos hf]at he;exact(lJ jC he).elim
 ·rename_i hf
  have hv:nth c.vars (c.find (c.node a).name).toNat∈c.vars:=by
   rcases vW bC.name (c.node a).name c.vars 0 jB with⟨h1,_⟩|h1
   ·exact(hf (by show fX bC.name (c.node a).name c.vars 0<0;rw[h1];decide)).elim
   ·exact dx (by show(fX bC.name (c.node a).name c.vars 0).toNat<_;omega)
  have hs:∀k,nth (c.slot a (nth c.vars (c.find (c.node a).name).toNat).slot).slots k=if n=k/\k<c.slots.length then(nth c.vars (c.find (c.node a).name).toNat).slot else nth c.slots k:=fun k=>by
   show nth (c.slots.set a.toNat _) k=_;rw[oP,hn]
  refine⟨fun k hk=>by show nth (c.slot a _).slots k=_;rw[hs,jN],?_⟩;show 0<=nth (c.slot a _).slots n/\nth (c.slot a _).slots n<_;rw[hs,if_pos ⟨rfl,hl⟩];exact h.2 _ hv
def GA(t:ax)(n:Nat):Prop:=∀(c:Ck) (a:Int) (lo:Nat),bv c->c.aa=t->bX c->0<=a->a<t.nodes.length->a.toNat<n->dM (bs t.nodes a)->aG t.nodes lo (nth t.nodes a.toNat).l a.toNat->(ar n c a).1.e=0->fh t lo (a.toNat+1) c (ar n c a).1
theorem GK{t:ax}{n:Nat}(hx:GA t n):∀(L:List Int) (c:Ck) (ts:List Int) (lo hi:Nat),bv c->c.aa=t->bX c->hi<=n->(∀x∈L,dM (bs t.nodes x))->aG t.nodes lo L hi->(fA (ar n) c L ts).1.e=0->fh t lo hi c (fA (ar n) c L ts).1
 |[],c,ts,lo,hi,h,hc,hv,hn,hr,hch,he=>by
  cases hch;unfold fA;exact .refl _ _ _
 |a::L,c,ts,lo,hi,h,hc,hv,hn,hr,hch,he=>by
  have e0:=(qV (dp n) (a::L) c ts).e0 he;unfold fA at he ⊢;rw[if_pos e0]at he ⊢;obtain⟨c1,c2,c3,c4,c5,c6⟩:=gZ hch;have ev:=dp n c a;have e1:=(qV (dp n) L _ _).e0 he;have r1:=hx c a lo h hc hv c1 c2 jB (hr a jE) c5 e1;exact r1.seq jB jB (GK hx L _ _ _ hi (h.ev ev) (ev.aa.trans hc) (hv.ev ev) hn (fun x hx=>hr x (by simp[hx])) c6 he)
theorem DX(a:Int):∀(ts:List Int) (ps:List bD) (c:Ck),(gx a c ts ps).slots=c.slots/\(gx a c ts ps).size=c.size
 |[],ps,c=>by rw[rD];exact⟨rfl,rfl⟩
 |_::_,[],c=>by rw[sj];exact⟨rfl,rfl⟩
 |x::ts,p::ps,c=>by
  unfold gx;split
  ·have:=DX a ts ps (c.aq (decide (x=p.ty)) a)
   exact⟨this.1.trans (qI _ _ _).1,this.2.trans (qI _ _ _).2⟩
  ·exact⟨rfl,rfl⟩
theorem uZ{t:ax}(ht:aH t):∀n,GA t n
 |0=>fun c a lo h hc hv h0 h1 hn=>by omega
 |n+1=>fun c a lo h hc hv h0 h1 hn hr hch he=>by
  have hx:=uZ ht n;have e0:=(dp (n+1) c a).e0 he;unfold ar at he ⊢;rw[jN]at he ⊢;simp only at he ⊢;have he:(bU (ar n) c a).1.e=0:=he;have hnode:c.node a=nth t.nodes a.toNat:=by unfold Ck.node;rw[hc]
  have sh:=(ht.shape a.toNat jB).1;suffices hs:fh t lo (a.toNat+1) c (bU (ar n) c a).1 from hs.post rfl rfl
  have hlo:=hch.le;have leaf:(nth t.nodes a.toNat).l=[]->fh t lo a.toNat c c:=fun hl=>by
   rw[hl]at hch;have:lo=a.toNat:=by cases hch;rfl
   subst this;exact .refl _ _ _
  have kid1:∀x,(nth t.nodes a.toNat).l=[x]->dM (bs t.nodes x)->(ar n c x).1.e=0->fh t lo a.toNat c (ar n c x).1:=fun x hl hxr hxe=>by
   rw[hl]at hch;obtain⟨c1,c2,c3,c4,c5⟩:=je hch;rw[c4];exact hx c x lo h hc hv c1 c2 jB hxr c5 hxe
  have kd:∀i,c.aw a i=nth (nth t.nodes a.toNat).l i:=fun i=>by unfold Ck.aw;rw[hnode]
  have hkr:(nth t.nodes a.toNat).kind=1\/(nth t.nodes a.toNat).kind=2\/(nth t.nodes a.toNat).kind=3\/(nth t.nodes a.toNat).kind=4\/(nth t.nodes a.toNat).kind=5\/(nth t.nodes a.toNat).kind=6\/(nth t.nodes a.toNat).kind=7\/(nth t.nodes a.toNat).kind=8\/(nth t.nodes a.toNat).kind=9\/(nth t.nodes a.toNat).kind=19\/(nth t.nodes a.toNat).kind=20\/(nth t.nodes a.toNat).kind=21:=by
   have:dM (nth t.nodes a.toNat).kind:=hr;unfold dM bO at this;omega
  have hno:∀{q:Prop},¬((nth t.nodes a.toNat).kind=4\/(nth t.nodes a.toNat).kind=5)->ie (nth t.nodes a.toNat).kind->q:=fun h1 h2=>by
   unfold ie at h2;have:dM (nth t.nodes a.toNat).kind:=hr;unfold dM bO at this;omega
  have hsl:a.toNat<c.slots.length:=by rw[h.slots,hc];omega
  rcases hkr with k|k|k|k|k|k|k|k|k|k|k|k
  ·have e:bU (ar n) c a=(c,1):=by unfold bU;simp only;rw[hnode,k];rfl
   rw[e];exact(leaf (sh.zero jB)).node (hno jB)
  ·have e:bU (ar n) c a=(c,2):=by unfold bU;simp only;rw[hnode,k];rfl
   rw[e];exact(leaf (sh.zero jB)).node (hno jB)
  ·have e:bU (ar n) c a=(c,3):=by unfold bU;simp only;rw[hnode,k];rfl
   rw[e];exact(leaf (sh.zero jB)).node (hno jB)
  ·have e:bU (ar n) c a=c.named a:=by unfold bU;simp only;rw[hnode,k];rfl
   rw[e]at he ⊢;obtain⟨g1,g2⟩:=AI hv rfl hsl he;have hz:=(l8 c a).size;have hl:=sh.zero jB;rw[hl]at hch;have:lo=a.toNat:=by cases hch;rfl
   subst this;exact⟨fun k hk=>g1 k jB,fun k h1 h2 _=>by
    have:k=a.toNat:=jB
    subst this;rw[hz];exact g2,by rw[hz];exact Int.le_refl _⟩
  ·have e:bU (ar n) c a=((ar n (c.named a).1 (c.aw a 0)).1.aq (decide ((c.named a).2=4) && decide ((ar n (c.named a).1 (c.aw a 0)).2=1)) a,1):=by unfold bU;simp only;rw[hnode,k];rfl
   obtain⟨x,hl,hxe⟩:=sh.one jB;have hk0:c.aw a 0=x:=by rw[kd,hl];rfl
   rw[e]at he ⊢;rw[hk0]at he ⊢;obtain⟨b1,b2⟩:=gS he;have en:=l8 c a;obtain⟨g1,g2⟩:=AI hv rfl hsl ((dp n _ x).e0 b2);rw[hl]at hch;obtain⟨c1,c2,c3,c4,c5⟩:=je hch;have r:=hx (c.named a).1 x lo (h.ev en) (en.aa.trans hc) (hv.ev en) c1 c2 jB (.inl hxe) c5 b2;have hz:=en.size;have hrz:=r.size;rw[<-c4]at r;refine fh.aq ⟨fun k hk=>(r.sw k jB).trans (g1 k jB),fun k h1 h2 h3=>?_,jB⟩;by_cases hka:k<a.toNat
   ·exact r.all k h1 hka h3
   ·have:k=a.toNat:=jB
    subst this;rw[r.sw _ (.inr jB)];omega
  ·have e:bU (ar n) c a=((ar n c (c.aw a 0)).1.aq (decide ((ar n c (c.aw a 0)).2=3) || decide ((ar n c (c.aw a 0)).2=4)) a,1):=by unfold bU;simp only;rw[hnode,k];rfl
   obtain⟨x,hl,hxe⟩:=sh.one jB;have hk0:c.aw a 0=x:=by rw[kd,hl];rfl
   rw[e]at he ⊢;rw[hk0]at he ⊢;exact((kid1 x hl (.inl hxe) (gS he).2).aq).node (hno jB)
  ·have e:bU (ar n) c a=((ar n c (c.aw a 0)).1.aq (decide ((ar n c (c.aw a 0)).2=1)) a,1):=by unfold bU;simp only;rw[hnode,k];rfl
   obtain⟨x,hl,hxe⟩:=sh.one jB;have hk0:c.aw a 0=x:=by rw[kd,hl];rfl
   rw[e]at he ⊢;rw[hk0]at he ⊢;exact((kid1 x hl (.inl hxe) (gS he).2).aq).node (hno jB)
  ·have e:bU (ar n) c a=((ar n c (c.aw a 0)).1.aq (decide ((ar n c (c.aw a 0)).2=2)) a,2):=by unfold bU;simp only;rw[hnode,k];rfl
   obtain⟨x,hl,hxe⟩:=sh.one jB;have hk0:c.aw a 0=x:=by rw[kd,hl];rfl
   rw[e]at he ⊢;rw[hk0]at he ⊢;exact((kid1 x hl (.inl hxe) (gS he).2).aq).node (hno jB)
  ·have e:bU (ar n) c a=((ar n (ar n c (c.aw a 0)).1 (c.aw a 1)).1.aq (!decide (gJ (c.node a).name (ar n c (c.aw a 0)).2 (ar n (ar n c (c.aw a 0)).1 (c.aw a 1)).2=0)) a,gJ (c.node a).name (ar n c (c.aw a 0)).2 (ar n (ar n c (c.aw a 0)).1 (c.aw a 1)).2):=by unfold bU;simp only;rw[hnode,k];rfl
   obtain⟨x,y,hl,hxe,hye⟩:=sh.two jB;have hk0:c.aw a 0=x:=by rw[kd,hl];rfl
   have hk1:c.aw a 1=y:=by rw[kd,hl];rfl
   rw[e]at he ⊢;rw[hk0,hk1]at he ⊢;obtain⟨b1,b2⟩:=gS he;have ev:=dp n c x;rw[hl]at hch;obtain⟨c1,c2,c3,c4,c5,c6⟩:=gZ hch;obtain⟨d1,d2,d3,d4,d5⟩:=je c6;have r1:=hx c x lo h hc hv c1 c2 jB (.inl hxe) c5 ((dp n _ y).e0 b2);have r2:=hx (ar n c x).1 y (x.toNat+1) (h.ev ev) (ev.aa.trans hc) (hv.ev ev) d1 d2 jB (.inl hye) d5 b2;rw[<-d4]at r2;exact((r1.seq jB jB r2).aq).node (hno jB)
  ·have e:bU (ar n) c a=(c,1):=by unfold bU;simp only;rw[hnode,k];rfl
   rw[e];exact(leaf (sh.zero jB)).node (hno jB)
  ·have e:bU (ar n) c a=((ar n c (c.aw a 0)).1.aq (decide ((ar n c (c.aw a 0)).2=1)) a,4):=by unfold bU;simp only;rw[hnode,k];rfl
   obtain⟨x,hl,hxe⟩:=sh.one jB;have hk0:c.aw a 0=x:=by rw[kd,hl];rfl
   rw[e]at he ⊢;rw[hk0]at he ⊢;exact((kid1 x hl (.inl hxe) (gS he).2).aq).node (hno jB)
  ·have e:bU (ar n) c a=gh (ar n) c a:=by unfold bU;simp only;rw[hnode,k];rfl
   rw[e]at he ⊢;have hcall:=sh.call k;unfold gh at he ⊢;split at he
   ·exact(lJ jC he).elim
   rename_i hf;rw[if_neg hf];simp only at he ⊢;have e1:=(xQ a _ _ _).e0 he;split at e1
   ·exact(lJ jC e1).elim
   rename_i hl;rw[if_neg hl];have r:=GK hx (c.node a).l c [] lo a.toNat h hc hv jB (fun x hx'=>.inl (hcall x (by rw[<-hnode];exact hx'))) (by rw[hnode];exact hch) e1;have q:=DX a (fA (ar n) c (c.node a).l []).2 (nth c.aa.ap (fb c a).toNat).params (fA (ar n) c (c.node a).l []).1;exact(r.post q.1 q.2).node (hno jB)
def F5(t:ax)(n:Nat):Prop:=∀(c:Ck) (a:Int) (lo:Nat),bv c->c.aa=t->bX c->c.e=0->0<=a->a<t.nodes.length->a.toNat<n->dv (bs t.nodes a)->aG t.nodes lo (nth t.nodes a.toNat).l a.toNat->(bu n c a).e=0->
 fh t lo (a.toNat+1) c (bu n c a)/\bX (bu n c a)
theorem wN{t:ax}{st:Ck->Int->Ck}{C:Int->Prop}{n:Nat}(hs:∀c a,bv c->c.e=0->Sv c (st c a))
  (hst:∀(c:Ck) (a:Int) (lo:Nat),bv c->c.aa=t->bX c->c.e=0->0<=a->a<t.nodes.length->a.toNat<n->C (bs t.nodes a)->aG t.nodes lo (nth t.nodes a.toNat).l a.toNat->(st c a).e=0->fh t lo (a.toNat+1) c (st c a)/\bX (st c a)) :
  ∀(L:List Int) (c:Ck) (lo hi:Nat),bv c->c.aa=t->bX c->hi<=n->(∀x∈L,C (bs t.nodes x))->aG t.nodes lo L hi->(cY st c L).e=0->fh t lo hi c (cY st c L)/\bX (cY st c L)
 |[],c,lo,hi,h,hc,hv,hn,hr,hch,he=>by
  cases hch;unfold cY;exact⟨.refl _ _ _,hv⟩
 |a::L,c,lo,hi,h,hc,hv,hn,hr,hch,he=>by
  have e0:=(nL hs (a::L) c h).e0 he;unfold cY at he ⊢;rw[if_pos e0]at he ⊢;obtain⟨c1,c2,c3,c4,c5,c6⟩:=gZ hch;have s:=hs c a h e0;have e1:=(nL hs L _ s.inv).e0 he;obtain⟨r1,v1⟩:=hst c a lo h hc hv e0 c1 c2 jB (hr a jE) c5 e1;obtain⟨r2,v2⟩:=wN hs hst L _ _ hi s.inv (s.aa.trans hc) v1 hn (fun x hx=>hr x (by simp[hx])) c6 he;exact⟨r1.seq jB jB r2,v2⟩
theorem yx(ht:aH t)(hst:F5 t n)(c:Ck)(a:Int)(lo:Nat)(h:bv c)(hc:c.aa=t)(hv:bX c)(h0:0<=a)(h1:a<t.nodes.length)(hn:a.toNat<=n)(hk:bs t.nodes a=18)(hch:aG t.nodes lo (nth t.nodes a.toNat).l a.toNat)(he:(dR (bu n) c a).e=0) :
  fh t lo (a.toNat+1) c (dR (bu n) c a)/\bX (dR (bu n) c a):=by
 have sv:=oz (kK n) h a;have hnode:c.node a=nth t.nodes a.toNat:=by unfold Ck.node;rw[hc]
 have hb:=(ht.shape a.toNat jB).1.block hk;have ev:=pe c a;obtain⟨r,_⟩:=wN (kK n) (C:=dv) hst (c.node a).l (c.ac a) lo a.toNat (h.ev ev) (ev.aa.trans hc) (hv.ev ev) hn (fun x hx=>hb x (by rw[<-hnode];exact hx)) (by rw[hnode];exact hch) he;have r:fh t lo a.toNat c (dR (bu n) c a):=fh.post (b:=cY (bu n) (c.ac a) (c.node a).l) (fh.pre (a:=c) (b:=c.ac a) rfl rfl r) rfl rfl;have hk18:(nth t.nodes a.toNat).kind=18:=hk;refine⟨r.node (fun h=>by unfold ie at h;omega),?_⟩;have hz:=r.size;refine⟨by have:=hv.1;omega,fun v hv'=>?_⟩;rw[sv.2]at hv';have:=hv.2 v hv';omega
theorem wX(ht:aH t){c0:Ck}{x:Int}(h:bv c0)(hc:c0.aa=t)(hv:bX c0)(hn:a.toNat<=n)(hl:(nth t.nodes a.toNat).l=[x])(hx:dM (bs t.nodes x))(hch:aG t.nodes lo (nth t.nodes a.toNat).l a.toNat)(he:(ar n c0 x).1.e=0) :
  fh t lo a.toNat c0 (ar n c0 x).1:=by
 rw[hl]at hch;obtain⟨c1,c2,c3,c4,c5⟩:=je hch;rw[c4];exact uZ ht n c0 x lo h hc hv c1 c2 jB hx c5 he
theorem EV(ht:aH t){c0:Ck}{x y:Int}(h:bv c0)(hc:c0.aa=t)(hv:bX c0)(hn:a.toNat<=n)(hl:(nth t.nodes a.toNat).l=[x,y])(hx:bO (bs t.nodes x))(hy:bO (bs t.nodes y))(hch:aG t.nodes lo (nth t.nodes a.toNat).l a.toNat)(he:(ar n (ar n c0 x).1 y).1.e=0) :
  fh t lo a.toNat c0 (ar n (ar n c0 x).1 y).1:=by
 rw[hl]at hch;obtain⟨c1,c2,c3,c4,c5,c6⟩:=gZ hch;obtain⟨d1,d2,d3,d4,d5⟩:=je c6;have ev:=dp n c0 x;have r1:=uZ ht n c0 x lo h hc hv c1 c2 jB (.inl hx) c5 ((dp n _ y).e0 he);have q1:=uZ ht n (ar n c0 x).1 y (x.toNat+1) (h.ev ev) (ev.aa.trans hc) (hv.ev ev) d1 d2 jB (.inl hy) d5 he;rw[d4];exact r1.seq jB jB q1
theorem EW{c:Ck}(h:bv c)(hc:c.aa=t)(hv:bX c)(h1:a<t.nodes.length)(h0:0<=a)(hlo:lo<=a.toNat)(he:(c.named a).1.e=0)(r:fh t lo a.toNat (c.named a).1 c'):fh t lo (a.toNat+1) c c':=by
 have hsl:a.toNat<c.slots.length:=by rw[h.slots,hc];omega
 obtain⟨g1,g2⟩:=AI hv rfl hsl he;have hz:=(l8 c a).size;have hrz:=r.size;refine⟨fun k hk=>(r.sw k jB).trans (g1 k jB),fun k h1 h2 h3=>?_,jB⟩;by_cases hka:k<a.toNat
 ·exact r.all k h1 hka h3
 ·have:k=a.toNat:=jB
  subst this;rw[r.sw _ (.inr jB)];omega
theorem ud{t:ax}(ht:aH t):∀n,F5 t n
 |0=>fun c a lo h hc hv e0 h0 h1 hn=>by omega
 |n+1=>fun c a lo h hc hv e0 h0 h1 hn hr hch he=>by
  have hs:=ud ht n;have hnode:(c.ac a).node a=nth t.nodes a.toNat:=by unfold Ck.node;show nth c.aa.nodes _=_;rw[hc]
  have sh:=(ht.shape a.toNat jB).1;have kd:∀i,(c.ac a).aw a i=nth (nth t.nodes a.toNat).l i:=fun i=>by unfold Ck.aw;rw[hnode]
  have ev:=pe c a;have h':=h.ev ev;have hc':=ev.aa.trans hc;have hv':=hv.ev ev;have hlo:=hch.le;have kr:∀{hi:Nat} {c':Ck},fh t lo hi (c.ac a) c'->fh t lo hi c c':=fun r=>fh.pre (a:=c) (b:=c.ac a) rfl rfl r
  have hno:∀{q:Prop},¬((nth t.nodes a.toNat).kind=10\/(nth t.nodes a.toNat).kind=11\/(nth t.nodes a.toNat).kind=12)->ie (nth t.nodes a.toNat).kind->q:=fun h1 h2=>by
   unfold ie at h2;have:dv (nth t.nodes a.toNat).kind:=hr;unfold dv at this;omega
  have hkr:(nth t.nodes a.toNat).kind=10\/(nth t.nodes a.toNat).kind=11\/(nth t.nodes a.toNat).kind=12\/(nth t.nodes a.toNat).kind=13\/(nth t.nodes a.toNat).kind=14\/(nth t.nodes a.toNat).kind=17\/(nth t.nodes a.toNat).kind=15\/(nth t.nodes a.toNat).kind=16:=by
   have:dv (nth t.nodes a.toNat).kind:=hr;unfold dv at this;omega
  rcases hkr with k|k|k|k|k|k|k
  ·have e:bu (n+1) c a=oj (ar n) (c.ac a) a:=by unfold bu;simp only;rw[hnode,k];rfl
   obtain⟨x,hl,hxr⟩:=sh.right jB;have hk0:(c.ac a).aw a 0=x:=by rw[kd,hl];rfl
   rw[e]at he ⊢;rw[sD]at he ⊢;have he:(dq (ar n) (c.ac a) a).e=0:=he;have hel:=vN (dp n) (c.ac a) a;have hin:=h'.ev hel;have hvl:=hv'.ev hel;obtain⟨_,q1⟩:=tM jC he;have q1:dq (ar n) (c.ac a) a=iB (ar n) (c.ac a) a:=q1;rw[q1]at he;obtain⟨_,q2⟩:=tM jC he;have q2:iB (ar n) (c.ac a) a=gg (ar n) (c.ac a) a:=q2;rw[q2]at he;unfold gg at he;rw[hk0]at he;obtain⟨b1,b2⟩:=gS he;have r1:=(wX ht h' hc' hv' jB hl hxr hch b2);have hty:(dq (ar n) (c.ac a) a).slots=(ar n (c.ac a) x).1.slots:=by rw[q1,q2];unfold gg;rw[hk0];exact(qI _ _ _).1
   have hsz:(dq (ar n) (c.ac a) a).size=(ar n (c.ac a) x).1.size:=by rw[q1,q2];unfold gg;rw[hk0];exact(qI _ _ _).2
   have r2:=kr (r1.post hty hsz);have hsl:a.toNat<(dq (ar n) (c.ac a) a).slots.length:=by rw[hin.slots,hel.aa,hc'];omega
   have h0z:=hvl.1;have hs':∀i,nth ((dq (ar n) (c.ac a) a).slots.set a.toNat (dq (ar n) (c.ac a) a).size) i=if a.toNat=i/\i<(dq (ar n) (c.ac a) a).slots.length then(dq (ar n) (c.ac a) a).size else nth (dq (ar n) (c.ac a) a).slots i:=fun i=>oP _ _ _ _
   refine⟨⟨fun i hi=>?_,fun i h1 h2 h3=>?_,?_⟩,?_,fun v hv2=>?_⟩
   ·show nth ((dq (ar n) (c.ac a) a).slots.set a.toNat _) i=_
    rw[hs',jN];exact r2.sw i jB
   ·show 0<=nth ((dq (ar n) (c.ac a) a).slots.set a.toNat _) i/\nth ((dq (ar n) (c.ac a) a).slots.set a.toNat _) i<(dq (ar n) (c.ac a) a).size+1
    rw[hs'];by_cases hia:i<a.toNat
    ·rw[jN]
     have:=r2.all i h1 hia h3;omega
    ·rw[if_pos ⟨jB,jB⟩]
     omega
   ·show _<=(dq (ar n) (c.ac a) a).size+1
    have:=r2.size;omega
   ·show 0<=(dq (ar n) (c.ac a) a).size+1
    omega
   ·show 0<=v.slot/\v.slot<(dq (ar n) (c.ac a) a).size+1
    have hv2:v∈(dq (ar n) (c.ac a) a).vars++[(⟨((c.ac a).node a).name,(ar n (c.ac a) ((c.ac a).aw a 0)).2,(dq (ar n) (c.ac a) a).size⟩:bC)]:=hv2;rcases List.mem_append.1 hv2 with hm|hm
    ·have:=hvl.2 v hm
     omega
    ·rw[List.mem_singleton.1 hm]
     show 0<=(dq (ar n) (c.ac a) a).size/\(dq (ar n) (c.ac a) a).size<_;omega
  ·have e:bu (n+1) c a=(ar n ((c.ac a).named a).1 ((c.ac a).aw a 0)).1.aq (decide (((c.ac a).named a).2=(ar n ((c.ac a).named a).1 ((c.ac a).aw a 0)).2)) a:=by unfold bu;simp only;rw[hnode,k];rfl
   obtain⟨x,hl,hxr⟩:=sh.right jB;have hk0:(c.ac a).aw a 0=x:=by rw[kd,hl];rfl
   rw[e]at he ⊢;rw[hk0]at he ⊢;obtain⟨b1,b2⟩:=gS he;have en:=l8 (c.ac a) a;have r1:=wX ht (h'.ev en) (en.aa.trans hc') (hv'.ev en) jB hl hxr hch b2;exact⟨kr ((EW h' hc' hv' h1 h0 hlo ((dp n _ x).e0 b2) r1).aq),(hv'.ev en).ev ((dp n _ _).trans (ir _ _ _))⟩
  ·have e:bu (n+1) c a=(ar n (ar n ((c.ac a).named a).1 ((c.ac a).aw a 0)).1 ((c.ac a).aw a 1)).1.aq (decide (((c.ac a).named a).2=4) && decide ((ar n ((c.ac a).named a).1 ((c.ac a).aw a 0)).2=1) && decide ((ar n (ar n ((c.ac a).named a).1 ((c.ac a).aw a 0)).1 ((c.ac a).aw a 1)).2=1)) a:=by unfold bu;simp only;rw[hnode,k];rfl
   obtain⟨x,y,hl,hxe,hye⟩:=sh.two jB;have hk0:(c.ac a).aw a 0=x:=by rw[kd,hl];rfl
   have hk1:(c.ac a).aw a 1=y:=by rw[kd,hl];rfl
   rw[e]at he ⊢;rw[hk0,hk1]at he ⊢;obtain⟨b1,b2⟩:=gS he;have en:=l8 (c.ac a) a;have r1:=EV ht (h'.ev en) (en.aa.trans hc') (hv'.ev en) jB hl hxe hye hch b2;exact⟨kr ((EW h' hc' hv' h1 h0 hlo ((dp n _ x).e0 ((dp n _ y).e0 b2)) r1).aq),(hv'.ev en).ev (((dp n _ _).trans (dp n _ _)).trans (ir _ _ _))⟩
  ·have e:bu (n+1) c a=(ar n (c.ac a) ((c.ac a).aw a 0)).1:=by unfold bu;simp only;rw[hnode,k];rfl
   obtain⟨x,hl,hxk⟩:=sh.mR k;have hk0:(c.ac a).aw a 0=x:=by rw[kd,hl];rfl
   rw[e]at he ⊢;rw[hk0]at he ⊢;have r1:=wX ht h' hc' hv' jB hl (by rw[hxk];unfold dM;omega) hch he;exact⟨(kr r1).node (hno jB),hv'.ev (dp n _ _)⟩
  ·have e:bu (n+1) c a=(ar n (c.ac a) ((c.ac a).aw a 0)).1.aq (!decide ((ar n (c.ac a) ((c.ac a).aw a 0)).2=4)) a:=by unfold bu;simp only;rw[hnode,k];rfl
   obtain⟨x,hl,hxe⟩:=sh.one jB;have hk0:(c.ac a).aw a 0=x:=by rw[kd,hl];rfl
   rw[e]at he ⊢;rw[hk0]at he ⊢;obtain⟨b1,b2⟩:=gS he;have r1:=wX ht h' hc' hv' jB hl (.inl hxe) hch b2;exact⟨((kr r1).aq).node (hno jB),hv'.ev ((dp n _ _).trans (ir _ _ _))⟩
  ·have e:bu (n+1) c a=jw (ar n) (c.ac a) a:=by unfold bu;simp only;rw[hnode,k];rfl
   rw[e]at he ⊢;unfold jw at he ⊢;rw[hnode]at he ⊢;simp only at he ⊢;split at he
   ·exact(lJ jC he).elim
   rename_i hf;rw[if_neg hf];rcases sh.ret k with hl|⟨x,hl,hxe⟩
   ·rw[hl]
    rw[if_neg jC];rw[hl]at hch;have:lo=a.toNat:=by cases hch;rfl
    subst this;exact⟨(kr (fh.refl t a.toNat (c.ac a))).node (hno jB),hv'⟩
   ·have hk0:(c.ac a).aw a 0=x:=by rw[kd,hl];rfl
    have hl1:(nth t.nodes a.toNat).l.length=1:=by rw[hl];rfl
    rw[if_pos hl1]at he ⊢;rw[hk0]at he ⊢;obtain⟨b1,b2⟩:=gS he;have r1:=wX ht h' hc' hv' jB hl (.inl hxe) hch b2;exact⟨((kr r1).aq).node (hno jB),hv'.ev ((dp n _ _).trans (ir _ _ _))⟩
  ·have e:bu (n+1) c a=cY (dR (bu n)) ((ar n (c.ac a) ((c.ac a).aw a 0)).1.aq (decide ((ar n (c.ac a) ((c.ac a).aw a 0)).2=2)) a) (((c.ac a).node a).l.drop 1):=by
    unfold bu;simp only;rw[hnode];rcases k with k|k<;>rw[k]<;>rfl
   have hsh:∃x L,(nth t.nodes a.toNat).l=x::L/\bO (bs t.nodes x)/\∀y∈L,bs t.nodes y=18:=by
    rcases k with k|k
    ·obtain⟨x,y,hx,hy,hl|⟨z,hl,hz⟩⟩:=sh.kg k
     ·exact⟨x,[y],hl,hx,fun u hu=>by rw[List.mem_singleton.1 hu];exact hy⟩
     ·exact⟨x,[y,z],hl,hx,fun u hu=>by
       rcases List.mem_cons.1 hu with rfl|hu
       ·exact hy
       ·rw[List.mem_singleton.1 hu];exact hz⟩
    ·obtain⟨x,y,hl,hx,hy⟩:=sh.dK k
     exact⟨x,[y],hl,hx,fun u hu=>by rw[List.mem_singleton.1 hu];exact hy⟩
   obtain⟨x,L,hl,hxe,hL⟩:=hsh;have hk0:(c.ac a).aw a 0=x:=by rw[kd,hl];rfl
   rw[e]at he ⊢;rw[hnode,hl,hk0]at he ⊢;have he:(cY (dR (bu n)) ((ar n (c.ac a) x).1.aq (decide ((ar n (c.ac a) x).2=2)) a) L).e=0:=he;show fh t lo (a.toNat+1) c (cY (dR (bu n)) ((ar n (c.ac a) x).1.aq (decide ((ar n (c.ac a) x).2=2)) a) L)/\bX (cY (dR (bu n)) ((ar n (c.ac a) x).1.aq (decide ((ar n (c.ac a) x).2=2)) a) L);have ex:=(dp n (c.ac a) x).trans (ir _ (decide ((ar n (c.ac a) x).2=2)) a);have hin:=h'.ev ex;have hsb:∀(q:Ck) b,bv q->q.e=0->Sv q (dR (bu n) q b):=fun q b hq _=>(oz (kK n) hq b).1
   have e1:=(nL hsb L _ hin).e0 he;obtain⟨b1,b2⟩:=gS e1;rw[hl]at hch;obtain⟨c1,c2,c3,c4,c5,c6⟩:=gZ hch;have r1:=uZ ht n (c.ac a) x lo h' hc' hv' c1 c2 jB (.inl hxe) c5 b2;obtain⟨r2,v2⟩:=wN hsb (C:=fun k=>k=18) (n:=n) (fun q b l g1 g2 g3 _ g5 g6 g7 g8 g9 g10=>yx ht hs q b l g1 g2 g3 g5 g6 jB g8 g9 g10) L _ (x.toNat+1) a.toNat hin (ex.aa.trans hc') (hv'.ev ex) jB hL c6 he;exact⟨((kr r1.aq).seq jB jB r2).node (hno jB),v2⟩
theorem zJ(body:Int):∀(ps:List bD) (c:Ck) (i:Int),bX c->c.size=i->bX (dD body c ps i)/\(dD body c ps i).slots=c.slots/\(dD body c ps i).size=i+ps.length
 |[],c,i,h,hi=>by unfold dD;exact⟨h,rfl,by simp;exact hi⟩
 |p::ps,c,i,h,hi=>by
  have fin:∀c1:Ck,Ev c c1->c1.slots=c.slots->bX (dD body (jS c1 ⟨p.name,p.ty,i⟩) ps (i+1))/\(dD body (jS c1 ⟨p.name,p.ty,i⟩) ps (i+1)).slots=c.slots/\(dD body (jS c1 ⟨p.name,p.ty,i⟩) ps (i+1)).size=i+(p::ps).length:=fun c1 s e=>by
   have hz:=s.size;have h1:=h.ev s;have h0:=h.1;obtain⟨a,b,d⟩:=zJ body ps (jS c1 ⟨p.name,p.ty,i⟩) (i+1) ⟨by show 0<=c1.size+1;omega,fun v hv=>by
    have hv:v∈c1.vars++[(⟨p.name,p.ty,i⟩:bC)]:=hv;show 0<=v.slot/\v.slot<c1.size+1;rcases List.mem_append.1 hv with hv|hv
    ·have:=h1.2 v hv
     omega
    ·rw[List.mem_singleton.1 hv]
     show 0<=i/\i<_;omega⟩ (by show c1.size+1=i+1;omega)
   exact⟨a,b.trans e,by rw[d,List.length_cons];omega⟩
  unfold dD;simp only;split
  ·exact fin _ (mj c jC body) (FJ _ _ _).1
  ·exact fin _ (.refl c) rfl
structure rN(t:ax)(sl:List Int)(k lo:Nat)(z:Int):Prop where
 vV:((nth t.ap k).params.length:Int)<=z
 hi:z<=24
 all:∀i,lo<=i->i<(nth t.ap k).body.toNat+1->ie (nth t.nodes i).kind->0<=nth sl i/\nth sl i<z
 chain:aG t.nodes lo (nth t.nodes (nth t.ap k).body.toNat).l (nth t.ap k).body.toNat
theorem rN.aX{sl sl':List Int}{k:Nat}{z:Int}(h:rN t sl k lo z)(e:∀i,i<(nth t.ap k).body.toNat+1->nth sl' i=nth sl i):rN t sl' k lo z:=⟨h.vV,h.hi,fun i h1 h2 h3=>by rw[e i h2];exact h.all i h1 h2 h3,h.chain⟩
theorem DL(ht:aH t){c:Ck}(h:fa c)(hc:c.aa=t){k:Nat}(hk:k<t.ap.length)(hsz:c.aM.length<6)(hch:aG t.nodes lo (nth t.nodes (nth t.ap k).body.toNat).l (nth t.ap k).body.toNat)(he:(ff c k).e=0) :
  (∀i,(i<lo\/(nth t.ap k).body.toNat+1<=i)->nth (ff c k).slots i=nth c.slots i)/\rN t (ff c k).slots k lo (ff c k).size/\(ff c k).aM=c.aM++[(ff c k).size]:=by
 have hk':k<c.aa.ap.length:=by rw[hc];exact hk
 have hp3:=h.aa.fn _ (dx hk');have hi0:bv { c with fn:=(k:Int),vars:=[],more:=[],size:=0 }:=⟨h.aa,h.types,h.slots,h.ap,by show c.aM.length<=6;omega,by show(0:Int)<=k;omega,by show(k:Int)<(c.aa.ap.length:Int);omega,by show((0:Nat):Int)<=0;omega,by show(0:Int)<=25;omega,fun _=>by show(0:Int)<=24;omega⟩;obtain⟨a,b,d⟩:=wi (nth c.aa.ap k).body (nth c.aa.ap k).params _ 0 hi0 (by show(0:Int)+_<=20;omega);obtain⟨a',b',d'⟩:=zJ (nth c.aa.ap k).body (nth c.aa.ap k).params { c with fn:=(k:Int),vars:=[],more:=[],size:=0 } 0 ⟨by show(0:Int)<=0;omega,fun v hv=>by simp at hv⟩ rfl;have hbN:=ot ht hk;have hbk:=ht.body _ (dx hk);unfold ff at he ⊢;simp only at he ⊢;rw[hc]at he ⊢;rw[hc]at a b d a' b' d';split at he
 ·rename_i e1
  rw[if_pos e1];have sv:=(oz (kK t.nodes.length) a (nth t.ap k).body).1;obtain⟨r,_⟩:=yx ht (ud ht t.nodes.length) _ (nth t.ap k).body lo a (b.trans (by rfl)) a' hbN.1 hbN.2 (by have:=hbN.2;have:=hbN.1;omega) hbk hch he;have q:=fh.size r;have hroom:=sv.inv.room he;refine⟨fun i hi=>(r.sw i hi).trans (by rw[b']),⟨?_,hroom,r.all,hch⟩,?_⟩
  ·show _<=(dR _ _ _).size
   rw[d']at q;omega
  ·show(dR _ _ _).aM++[_]=_
   rw[sv.aM,d]
 ·rename_i e1
  exact(e1 he).elim
def nK(t:ax)(k:Nat):Nat:=if k=0 then 0 else(nth t.ap (k-1)).body.toNat+1
theorem Df{t:ax}(ht:aH t):∀(n i lo:Nat) (c:Ck),fa c->c.aa=t->c.aM.length=i->i+n=t.ap.length->lo=nK t i->aG t.nodes lo ((t.ap.drop i).map (·.body)) t.nodes.length->(∀j,j<i->rN t c.slots j (nK t j) (nth c.aM j)/\(nth t.ap j).body.toNat<lo)->(fj c i n).e=0->
  ∀j,j<t.ap.length->rN t (fj c i n).slots j (nK t j) (nth (fj c i n).aM j)
 |0,i,lo,c,h,hc,hs,hi,hlo,hch,hA,he=>by
  unfold fj;exact fun j hj=>(hA j jB).1
 |n+1,i,lo,c,h,hc,hs,hi,hlo,hch,hA,he=>by
  have h6:=ht.ap;unfold fj at he ⊢;by_cases e0:c.e=0
  ·rw[if_pos e0]at he ⊢
   have hk:i<t.ap.length:=jB
   rw[kP hk]at hch;obtain⟨c1,c2,c3,c4,c5,c6⟩:=gZ (a:=(nth t.ap i).body) hch;obtain⟨f1,f2,f3⟩:=wQ h (by rw[hc];exact hk) (by omega:c.aM.length<6);have e1:(ff c i).e=0:=by
    cases n with
    |zero=>unfold fj at he;exact he
    |succ m=>
     unfold fj at he;split at he
     ·assumption
     ·exact he
   obtain⟨r1,r2,r3⟩:=DL ht h hc hk jB c5 e1;refine Df ht n (i+1) ((nth t.ap i).body.toNat+1) (ff c i) f1 (f2.trans hc) jB jB (by unfold nK;rw[jN];rfl) c6 (fun j hj=>?_) he;by_cases hji:j<i
   ·obtain⟨g1,g2⟩:=hA j hji
    have hz:nth (ff c i).aM j=nth c.aM j:=by rw[r3,mS jB]
    rw[hz];exact⟨g1.aX fun q hq=>r1 q (.inl jB),jB⟩
   ·have:j=i:=jB
    subst this;have hz:nth (ff c j).aM j=(ff c j).size:=by rw[r3,<-hs];exact ng _ _
    rw[hz,<-hlo];exact⟨r2,jB⟩
  ·rw[if_neg e0]at he
   exact(e0 he).elim
theorem Ey{x:aW}:∀(l:List aW) (c:Ck),(lD x c l).e=0->c.e=0/\∀f∈l,f.name≠x.name
 |[],c,h=>⟨by unfold lD at h;exact h,fun f hf=>by simp at hf⟩
 |f::l,c,h=>by
  unfold lD at h;obtain⟨h1,h2⟩:=Ey l _ h;obtain⟨h3,h4⟩:=tM jC h1;rw[h4]at h1;exact⟨h1,fun g hg=>by
   rcases List.mem_cons.1 hg with rfl|hg
   ·exact h3
   ·exact h2 g hg⟩
theorem Dy(ap:List aW):∀(n i:Nat) (c:Ck) (m:Bool),i+n=ap.length->(kF ap c m i n).1.e=0->c.e=0/\(∀j,i<=j->j<ap.length->∀f∈ap.take j,f.name≠(nth ap j).name)/\((kF ap c m i n).2=true->m=true\/∃j,j<ap.length/\uf (nth ap j)=true)
 |0,i,c,m,hi,h=>by
  unfold kF at h ⊢;exact⟨h,fun j h1 h2=>jB,fun h=>.inl h⟩
 |n+1,i,c,m,hi,h=>by
  unfold kF at h ⊢;obtain⟨h1,h2,h3⟩:=Dy ap n (i+1) _ _ jB h;obtain⟨h4,h5⟩:=Ey _ _ h1;refine⟨h4,fun j g1 g2=>?_,fun hm=>?_⟩
  ·by_cases e:j=i
   ·subst e;exact h5
   ·exact h2 j jB g2
  ·rcases h3 hm with h|h
   ·rcases Bool.or_eq_true _ _ |>.mp h with h|h
    ·exact .inl h
    ·exact .inr ⟨i,jB,h⟩
   ·exact .inr h
structure BU(t:ax):Prop where
 one:∀i j,i<j->j<t.ap.length->(nth t.ap i).name≠(nth t.ap j).name
 main:∃j,j<t.ap.length/\uf (nth t.ap j)=true
theorem Lz{c:Ck}(h:(iN c).e=0):c.e=0/\BU c.aa:=by
 unfold iN at h;simp only at h;split at h
 ·rename_i hm
  obtain⟨h1,h2,h3⟩:=Dy c.aa.ap c.aa.ap.length 0 c false jB h;refine⟨h1,⟨fun i j hi hj=>h2 j jB hj _ ?_,?_⟩⟩
  ·rw[dN jB]
   exact List.mem_take_iff_getElem.2 ⟨i,jB,rfl⟩
  ·rcases h3 hm with h|h
   ·cases h
   ·exact h
 ·exact(lJ jC h).elim
theorem Ci(f:aW->ByteArray)(nm:ByteArray):∀(l:List aW) (i k:Int),(∀a b,a<b->b<l.length->f (nth l a)≠f (nth l b))->(∃v∈l,f v=nm)->iF f nm l i k=fX f nm l i
 |[],i,k,h,hx=>by obtain⟨v,hv,_⟩:=hx;simp at hv
 |v::l,i,k,h,hx=>by
  unfold iF fX;have hl:∀a b,a<b->b<l.length->f (nth l a)≠f (nth l b):=fun a b h1 h2=>h (a+1) (b+1) jB (by rw[List.length_cons];omega)
  by_cases hv:f v=nm
  ·rw[if_pos hv,if_pos hv]
   have hn:∀u∈l,f u≠nm:=fun u hu hh=>by
    obtain⟨q,hq,rfl⟩:=List.mem_iff_getElem.1 hu;exact h 0 (q+1) jB (by rw[List.length_cons];omega) (by rw[show nth (v::l) 0=v from rfl,show nth (v::l) (q+1)=l[q] from by rw[dN (by rw[List.length_cons];omega)];rfl,hv,hh])
   have:∀(l:List aW) (i k:Int),(∀u∈l,f u≠nm)->iF f nm l i k=k:=fun l=>by
    induction l with
    |nil=>intro i k _;rfl
    |cons u l ih=>
     intro i k hu;unfold iF;rw[if_neg (hu u jE),ih (i+1) k fun w hw=>hu w (by simp[hw])]
   exact this l _ _ hn
  ·rw[if_neg hv,if_neg hv]
   exact Ci f nm l (i+1) k hl (by
    obtain⟨u,hu,hh⟩:=hx;rcases List.mem_cons.1 hu with rfl|hu
    ·exact(hv hh).elim
    ·exact⟨u,hu,hh⟩)
structure dT(p:ab):Prop where
 ok:rX p
 ap:∀j,j<p.aa.ap.length->rN p.aa p.slots j (nK p.aa j) (nth p.size j)
 names:BU p.aa
theorem Jq(ht:aH t)(he:(gC t).2.2=0):dT (gC t).1:=by
 have hp:=(BG ht he).1;unfold gC at he hp ⊢;split at he
 ·rename_i h;exact(h he).elim
 rename_i h;rw[if_neg h]at hp ⊢;have h:(gU t).e=0:=jB
 obtain⟨i1,i2,i3⟩:=Bg ht;have q:=Df ht t.ap.length 0 0 (iN (iY t)) i1 i2 (by rw[i3];rfl) jB rfl (by rw[List.drop_zero];exact ht.chain) (fun j hj=>jB) h;obtain⟨_,q1,_⟩:=wh ht t.ap.length 0 0 (iN (iY t)) i1 i2 (by rw[i3];rfl) jB (by rw[List.drop_zero];exact ht.chain) h;have he:(gU t).aa=t:=q1;have h0:(iN (iY t)).e=0:=by
  have hpos:=h;unfold gU at hpos;cases hn:t.ap.length with
  |zero=>rw[hn]at hpos;unfold fj at hpos;exact hpos
  |succ m=>
   rw[hn]at hpos;unfold fj at hpos;split at hpos
   ·assumption
   ·exact hpos
 refine⟨hp,?_,?_⟩
 ·show∀j,j<(gU t).aa.ap.length->rN (gU t).aa (gU t).slots j (nK (gU t).aa j) (nth (gU t).aM j)
  rw[he];exact q
 ·show BU (gU t).aa
  rw[he];exact(Lz h0).2
theorem AY{s:ByteArray}(he:(ga s).2.2=0):dT (ga s).1:=by
 unfold ga at he ⊢;split at he
 ·rename_i h;exact(h he).elim
 rename_i h;rw[if_neg h];have h:(gu s).2.2=0:=jB
 simp only at he ⊢;split at he
 ·cases he
 rename_i h2;split at he
 ·rename_i h3;exact(h3 he).elim
 rename_i h3;rw[if_neg h2,if_neg h3];exact Jq (vE h) jB
end Go.Proofs.YtfkgcobaheegbaaGreatDoor

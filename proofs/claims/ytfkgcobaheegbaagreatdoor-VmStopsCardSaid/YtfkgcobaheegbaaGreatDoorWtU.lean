/- Lemmas. No conditions. -/
import Derived.Test.YtfkgcobaheegbaaGreatDoorSoH
set_option linter.all false
set_option maxHeartbeats 4000000
namespace Go.Proofs.YtfkgcobaheegbaaGreatDoor
open Go Go.Gd
structure Fx(I:Nat->Prop)(c c':Ck):Prop where
 aa:c'.aa=c.aa
 fn:c'.fn=c.fn
 at_:∀k,nth c'.ao k=nth c.ao k\/(I k/\nth c'.ao k=c.fn)
theorem Fx.refl(I:Nat->Prop)(c:Ck):Fx I c c:=⟨rfl,rfl,fun _=>.inl rfl⟩
theorem Fx.trans{I:Nat->Prop}{a b c:Ck}(h:Fx I a b)(k:Fx I b c):Fx I a c:=⟨k.aa.trans h.aa,k.fn.trans h.fn,fun i=>by
 rcases k.at_ i with e|⟨e1,e2⟩
 ·rw[e];exact h.at_ i
 ·exact .inr ⟨e1,e2.trans h.fn⟩⟩
variable{I:Nat->Prop}
theorem tM{c c':Ck}(h0:c'.aa=c.aa)(h1:c'.fn=c.fn)(h2:c'.ao=c.ao):Fx I c c':=⟨h0,h1,fun k=>.inl (by rw[h2])⟩
theorem rD(I:Nat->Prop)(c:Ck)(e a:Int):Fx I c (c.aF e a):=by unfold Ck.aF;split<;>exact tM rfl rfl rfl
theorem qk(I:Nat->Prop)(c:Ck)(b:Bool)(a:Int):Fx I c (c.ap b a):=by unfold Ck.ap;split;exact .refl _ _;exact rD _ _ _ _
theorem u0(I:Nat->Prop)(c:Ck)(a:Int):Fx I c (c.named a).1:=by unfold Ck.named;split;exact rD _ _ _ _;exact tM rfl rfl rfl
theorem AO(c:Ck){a:Int}(h:I a.toNat):Fx I c (c.ac a):=⟨rfl,rfl,fun k=>by
 show nth (c.ao.set a.toNat c.fn) k=_\/_;rw[oJ];split
 ·rename_i e;exact .inr ⟨e.1 ▸ h,by show nth (c.ao.set a.toNat c.fn) k=_;rw[oJ,if_pos e]⟩
 ·exact .inl rfl⟩
theorem Kc(c:Ck){a:Int}(t:Int)(h:I a.toNat):Fx I c (c.note a t):=⟨rfl,rfl,(AO c h).at_⟩
theorem zd{c x y:Ck}{q:Prop}[Decidable q](h:Fx I c x)(k:Fx I c y):Fx I c (if q then x else y):=by split;exact h;exact k
def Cl(t:az)(I:Nat->Prop):Prop:=∀k,I k->k<t.nodes.length/\∀a∈(nth t.nodes k).l,I a.toNat
def HI(t:az)(I:Nat->Prop)(ex:Ck->Int->Ck×Int):Prop:=∀c a,c.aa=t->I a.toNat->dW (bt t.nodes a)->Fx I c (ex c a).1
theorem Fm{t:az}{I:Nat->Prop}{ex:Ck->Int->Ck×Int}(hx:HI t I ex):∀(L:List Int) (c:Ck) (ts:List Int),c.aa=t->(∀a∈L,I a.toNat/\dW (bt t.nodes a))->Fx I c (fO ex c L ts).1
 |[],c,ts,hc,hL=>by unfold fO;exact .refl _ c
 |a::L,c,ts,hc,hL=>by
  unfold fO;split
  ·have h1:=hx c a hc (hL a jE).1 (hL a jE).2;exact h1.trans (Fm hx L _ _ (h1.aa.trans hc) fun b hb=>hL b (by simp[hb]))
  ·exact .refl _ c
theorem DL(I:Nat->Prop)(a:Int):∀(ts:List Int) (ps:List bE) (c:Ck),Fx I c (gL a c ts ps)
 |[],ps,c=>by rw[rF];exact .refl _ c
 |_::_,[],c=>by rw[rA];exact .refl _ c
 |x::ts,p::ps,c=>by
  unfold gL;split
  ·exact(qk _ _ _ _).trans (DL I a ts ps _)
  ·exact .refl _ c
theorem Cu{t:az}(ht:aH t){I:Nat->Prop}(hI:Cl t I):∀n,HI t I (ar n)
 |0=>fun c a hc ha hr=>by unfold ar;exact .refl _ c
 |n+1=>fun c a hc ha hr=>by
  have hx:=Cu ht hI n;unfold ar;split
  ·exact .refl _ c
  refine Fx.trans (b:=(bV (ar n) c a).1) ?_ (Kc _ _ ha);obtain⟨hal,hak⟩:=hI _ ha;have sh:=(ht.shape a.toNat hal).1;have hnode:c.node a=nth t.nodes a.toNat:=by unfold Ck.node;rw[hc]
  have kd:∀i,c.ay a i=nth (nth t.nodes a.toNat).l i:=fun i=>by unfold Ck.ay;rw[hnode]
  have hr':dW (nth t.nodes a.toNat).kind:=hr;unfold dW bQ at hr';have one:∀x,(nth t.nodes a.toNat).l=[x]->bQ (bt t.nodes x)->∀c',c'.aa=t->Fx I c' (ar n c' (c.ay a 0)).1:=fun x hl hxe c' hc'=>by
   have hk0:c.ay a 0=x:=by rw[kd,hl];rfl
   rw[hk0];exact hx c' x hc' (hak x (by rw[hl];simp)) (.inl hxe)
  unfold bV;simp only;rw[hnode];split
  ·exact .refl _ c
  split
  ·exact .refl _ c
  split
  ·exact .refl _ c
  split
  ·exact u0 _ _ _
  split
  ·rename_i k;have hcall:=sh.call k;unfold gq;split
   ·exact rD _ _ _ _
   ·simp only;refine((Fm hx _ c _ hc fun b hb=>?_).trans (zd (rD _ _ _ _) (.refl _ _))).trans (DL _ _ _ _ _);rw[hnode]at hb;exact⟨hak b hb,.inl (hcall b hb)⟩
  split
  ·obtain⟨x,hl,hxe⟩:=sh.one jB;exact((u0 I c a).trans (one x hl hxe _ ((u0 I c a).aa.trans hc))).trans (qk _ _ _ _)
  split
  ·obtain⟨x,y,hl,hxe,hye⟩:=sh.two jB;have hk0:c.ay a 0=x:=by rw[kd,hl];rfl
   have hk1:c.ay a 1=y:=by rw[kd,hl];rfl
   rw[hk0,hk1];have h1:=hx c x hc (hak x (by rw[hl];simp)) (.inl hxe);exact(h1.trans (hx _ y (h1.aa.trans hc) (hak y (by rw[hl];simp)) (.inl hye))).trans (qk _ _ _ _)
  ·obtain⟨x,hl,hxe⟩:=sh.one jB
   (repeat' split)<;>exact(one x hl hxe c hc).trans (qk _ _ _ _)
theorem vY{t:az}{I:Nat->Prop}{st:Ck->Int->Ck}{C:Int->Prop}(hs:∀c a,c.aa=t->I a.toNat->C (bt t.nodes a)->Fx I c (st c a)):∀(L:List Int) (c:Ck),c.aa=t->(∀a∈L,I a.toNat/\C (bt t.nodes a))->Fx I c (de st c L)
 |[],c,hc,hL=>by unfold de;exact .refl _ c
 |a::L,c,hc,hL=>by
  unfold de;split
  ·have h1:=hs c a hc (hL a jE).1 (hL a jE).2;exact h1.trans (vY hs L _ (h1.aa.trans hc) fun b hb=>hL b (by simp[hb]))
  ·exact .refl _ c
variable{t:az}
theorem A7(ht:aH t)(hI:Cl t I){st:Ck->Int->Ck}(hs:∀c a,c.aa=t->I a.toNat->dL (bt t.nodes a)->Fx I c (st c a))(c:Ck)(a:Int)(hc:c.aa=t)(ha:I a.toNat)(hk:bt t.nodes a=18):Fx I c (dZ st c a):=by
 obtain⟨hal,hak⟩:=hI _ ha;have hb:=(ht.shape a.toNat hal).1.block hk;have hnode:c.node a=nth t.nodes a.toNat:=by unfold Ck.node;rw[hc]
 unfold dZ;simp only;refine((AO c ha).trans (vY (C:=dL) hs _ _ hc fun b hb'=>?_)).trans (tM rfl rfl rfl);rw[hnode]at hb';exact⟨hak b hb',hb b hb'⟩
theorem IV{t:az}{ex:Ck->Int->Ck×Int}(c:Ck)(a:Int)(hx:Fx I c (ex c (c.ay a 0)).1):Fx I c (oB ex c a):=by have hA:Fx I c (gr ex c a):=hx.trans (qk _ _ _ _);have hB:Fx I (gr ex c a) (iR ex c a):=zd (rD _ _ _ _) (.refl _ _);have hC:Fx I (iR ex c a) (dz ex c a):=zd (rD _ _ _ _) (.refl _ _);rw[sc];exact((hA.trans hB).trans hC).trans (tM rfl rfl rfl)
theorem FA(ht:aH t)(hI:Cl t I){n:Nat}(ih:∀(c:Ck) (a:Int),c.aa=t->I a.toNat->dL (bt t.nodes a)->Fx I c (bv n c a))(c:Ck)(a:Int)(hc:c.aa=t)(ha:I a.toNat)(hr:dL (bt t.nodes a)):Fx I (c.ac a) (bv (n+1) c a):=by
 have hx:=Cu ht hI n;obtain⟨hal,hak⟩:=hI _ ha;have sh:=(ht.shape a.toNat hal).1;have hnode:(c.ac a).node a=nth t.nodes a.toNat:=by unfold Ck.node;show nth c.aa.nodes _=_;rw[hc]
 have hc':(c.ac a).aa=t:=hc;have kd:∀i,(c.ac a).ay a i=nth (nth t.nodes a.toNat).l i:=fun i=>by unfold Ck.ay;rw[hnode]
 have hr':dL (nth t.nodes a.toNat).kind:=hr;unfold dL at hr';have one:∀x,(nth t.nodes a.toNat).l=[x]->dW (bt t.nodes x)->∀c',c'.aa=t->Fx I c' (ar n c' ((c.ac a).ay a 0)).1:=fun x hl hxe d hd=>by
  have hk0:(c.ac a).ay a 0=x:=by rw[kd,hl];rfl
  rw[hk0];exact hx d x hd (hak x (by rw[hl];simp)) hxe
 unfold bv;simp only;rw[hnode];split
 ·obtain⟨x,hl,hxe⟩:=sh.right jB;exact IV (t:=t) _ _ (one x hl hxe _ hc')
 split
 ·obtain⟨x,hl,hxe⟩:=sh.right jB;exact((u0 I _ a).trans (one x hl hxe _ ((u0 I _ a).aa.trans hc'))).trans (qk _ _ _ _)
 split
 ·obtain⟨x,y,hl,hxe,hye⟩:=sh.two jB;have hk0:(c.ac a).ay a 0=x:=by rw[kd,hl];rfl
  have hk1:(c.ac a).ay a 1=y:=by rw[kd,hl];rfl
  rw[hk0,hk1];have h0:=u0 I (c.ac a) a;have h1:=h0.trans (hx _ x (h0.aa.trans hc') (hak x (by rw[hl];simp)) (.inl hxe));exact(h1.trans (hx _ y (h1.aa.trans hc') (hak y (by rw[hl];simp)) (.inl hye))).trans (qk _ _ _ _)
 split
 ·obtain⟨x,hl,hxk⟩:=sh.nL jB;exact one x hl (by rw[hxk];unfold dW;omega) _ hc'
 split
 ·obtain⟨x,hl,hxe⟩:=sh.one jB;exact(one x hl (.inl hxe) _ hc').trans (qk _ _ _ _)
 split
 ·unfold jZ;simp only;rw[hnode];split
  ·exact rD _ _ _ _
  split
  ·rename_i e1;rcases sh.ret jB with hl|⟨x,hl,hxe⟩
   ·rw[hl]at e1;cases e1
   ·exact(one x hl (.inl hxe) _ hc').trans (qk _ _ _ _)
  ·exact .refl _ _
 ·have hsh:∃x L,(nth t.nodes a.toNat).l=x::L/\bQ (bt t.nodes x)/\∀y∈L,bt t.nodes y=18:=by
   rcases(show(nth t.nodes a.toNat).kind=15\/(nth t.nodes a.toNat).kind=16 from jB)with k|k
   ·obtain⟨x,y,hx,hy,hl|⟨z,hl,hz⟩⟩:=sh.kz k
    ·exact⟨x,[y],hl,hx,fun u hu=>by rw[List.mem_singleton.1 hu];exact hy⟩
    ·exact⟨x,[y,z],hl,hx,fun u hu=>by
      rcases List.mem_cons.1 hu with rfl|hu
      ·exact hy
      ·rw[List.mem_singleton.1 hu];exact hz⟩
   ·obtain⟨x,y,hl,hx,hy⟩:=sh.dS k;exact⟨x,[y],hl,hx,fun u hu=>by rw[List.mem_singleton.1 hu];exact hy⟩
  obtain⟨x,L,hl,hxe,hL⟩:=hsh;have hk0:(c.ac a).ay a 0=x:=by rw[kd,hl];rfl
  rw[hk0,hl];have h1:=(hx (c.ac a) x hc' (hak x (by rw[hl];simp)) (.inl hxe)).trans (qk _ _ (decide ((ar n (c.ac a) x).2=2)) a);refine h1.trans (vY (C:=fun k=>k=18) (fun d b hd hb hk=>A7 ht hI ih d b hd hb hk) _ _ (h1.aa.trans hc') fun b hb=>?_);have hb:b∈L:=hb;exact⟨hak b (by rw[hl];simp[hb]),hL b hb⟩
theorem uB{t:az}(ht:aH t){I:Nat->Prop}(hI:Cl t I):∀(n:Nat) (c:Ck) (a:Int),c.aa=t->I a.toNat->dL (bt t.nodes a)->Fx I c (bv n c a)
 |0,c,a,hc,ha,hr=>by unfold bv;exact .refl _ c
 |n+1,c,a,hc,ha,hr=>(AO c ha).trans (FA ht hI (uB ht hI n) c a hc ha hr)
theorem uI(ht:aH t){lo hi:Nat}{L:List Int}(h:aG t.nodes lo L hi)(hl:hi<=t.nodes.length):Cl t fun k=>lo<=k/\k<hi:=fun k ⟨h1,h2⟩=>⟨jB,fun a ha=>by have:=h.closed k h1 h2 a ha;have:=((ht.shape k jB).2.1 a ha).2;omega⟩
theorem Ha(I:Nat->Prop)(body:Int):∀(ps:List bE) (c:Ck) (i:Int),Fx I c (dU body c ps i)
 |[],c,i=>by unfold dU;exact .refl _ c
 |p::ps,c,i=>by unfold dU;simp only;have h1:Fx I c (if 0<=c.find p.name then c.aF 41 body else c):=zd (rD I c 41 body) (.refl _ c);generalize (if 0<=c.find p.name then c.aF 41 body else c)=d at*;refine h1.trans ?_;exact Fx.trans (b:={ d with vars:=d.vars++[⟨p.name,p.ty,i⟩],more:=d.more.drop 1,size:=d.size+1 }) (tM rfl rfl rfl) (Ha I body ps _ _)
theorem PY(ht:aH t){c:Ck}(hc:c.aa=t){k:Nat}(hk:k<t.ao.length){lo:Nat}(hch:aG t.nodes lo (nth t.nodes (nth t.ao k).body.toNat).l (nth t.ao k).body.toNat):∀q,(q<lo\/(nth t.ao k).body.toNat+1<=q)->nth (fA c k).ao q=nth c.ao q:=by
 subst hc;have hbN:=oG ht hk;have hbk:=ht.body _ (dT hk);have hch2:=aG.kM hbN.1 hbN.2 hch;have hI:=uI ht hch2 (by have:=hbN.1;have:=hbN.2;omega);have h:Fx (fun q=>lo<=q/\q<(nth c.aa.ao k).body.toNat+1) { c with fn:=(k:Int),vars:=[],more:=[],size:=0 } (fA c k):=by
  unfold fA;simp only;have h1:=Ha (fun q=>lo<=q/\q<(nth c.aa.ao k).body.toNat+1) (nth c.aa.ao k).body (nth c.aa.ao k).params { c with fn:=(k:Int),vars:=[],more:=[],size:=0 } 0;generalize dU (nth c.aa.ao k).body { c with fn:=(k:Int),vars:=[],more:=[],size:=0 } (nth c.aa.ao k).params 0=d at*;have h2:=h1.trans (A7 ht hI (uB ht hI c.aa.nodes.length) d (nth c.aa.ao k).body h1.aa ⟨by have:=hch.le;omega,jB⟩ hbk);split
  ·exact h2.trans (tM rfl rfl rfl)
  ·exact h1.trans (tM rfl rfl rfl)
 intro q hq;rcases h.at_ q with e|⟨e,_⟩
 ·exact e
 ·omega
end Go.Proofs.YtfkgcobaheegbaaGreatDoor
namespace Go.Gd
open Go
def DI(p:ab)(x:Int):bC:=⟨(ai p x).name,nth p.types (nth (ai p x).l 0).toNat,nth p.slots x.toNat⟩
def ou(p:ab)(x:Int)(vars:List bC):List bC:=if(ai p x).kind=10 then vars++[DI p x]else vars
def mO:List bE->Int->List bC
 |[],_=>[]
 |x::l,i=>⟨x.name,x.ty,i⟩::mO l (i+1)
def ww(p:ab)(f:aI):kW:=⟨f.fn,nth (ai p f.pl.block).l f.pl.at_.toNat,f.slots⟩
def fH(p:ab)(s:aJ):lh:=⟨s.aq.map (ww p),s.heap,s.in_,s.ax,s.status,s.aZ,s.time⟩
def nh(p:ab)(L:List Int)(vars:List bC):List bC:=L.foldl (fun v x=>ou p x v) vars
theorem Bn(p:ab)(A B:List Int)(vars:List bC):nh p (A++B) vars=nh p B (nh p A vars):=List.foldl_append
def uS(p:ab)(x:Int):Int:=iZ aX.name (ai p x).name p.aa.ao 0 (-1)
structure pK(p:ab)(x:Int):Prop where
 ret:nth p.types x.toNat=(nth p.aa.ao (uS p x).toNat).ret
 args:∀i,i<(ai p x).l.length->nth p.types (nth (ai p x).l i).toNat=(nth (nth p.aa.ao (uS p x).toNat).params i).ty
structure xk(p:ab)(j:Nat)(kids:List bC->Int->Prop)(vars:List bC)(x:Int):Prop where
 fn:nth p.fn x.toNat=j
 pd:(ai p x).kind=10->∀v∈vars,v.name≠(ai p x).name/\v.slot≠nth p.slots x.toNat
 set:(ai p x).kind=11->∃v∈vars,v.name=(ai p x).name/\v.slot=nth p.slots x.toNat/\v.ty=nth p.types (nth (ai p x).l 0).toNat
 put:(ai p x).kind=12->∃v∈vars,v.name=(ai p x).name/\v.slot=nth p.slots x.toNat/\v.ty=4
 call:(ai p x).kind=10\/(ai p x).kind=11\/(ai p x).kind=13->(ai p (nth (ai p x).l 0)).kind=21->pK p (nth (ai p x).l 0)
 ret:(ai p x).kind=17->((ai p x).l.length=1->nth p.types (nth (ai p x).l 0).toNat=(nth p.aa.ao j).ret)/\((ai p x).l.length≠1->(nth p.aa.ao j).ret=0)
 kids:(ai p x).kind=15\/(ai p x).kind=16->∀b∈(ai p x).l.drop 1,kids vars b
def uK(s:List bC->Int->Prop)(p:ab):List bC->List Int->Prop
 |_,[]=>True
 |vars,x::l=>s vars x/\uK s p (ou p x vars) l
def nZ(p:ab)(j:Nat):Nat->List bC->Int->Prop
 |0,_,_=>True
 |n+1,vars,b=>uK (xk p j (nZ p j n)) p vars (ai p b).l
def pc(l:List bC):Prop:=l.Pairwise fun v w=>v.name≠w.name/\v.slot≠w.slot
structure pS(p:ab)(j:Nat):Prop where
 env:pc (mO (nth p.aa.ao j).params 0)
 body:∀m,nZ p j m (mO (nth p.aa.ao j).params 0) (nth p.aa.ao j).body
end Go.Gd
namespace Go.Proofs.YtfkgcobaheegbaaGreatDoor
open Go Go.Gd
def dF(p:ab)(c:Ck)(lo hi:Nat):Prop:=∀k,lo<=k->k<hi->nth p.types k=nth c.types k/\nth p.slots k=nth c.slots k/\nth p.fn k=nth c.ao k
variable{p:ab}{c':Ck}{lo:Nat}
theorem dF.sub{c:Ck}{hi lo' hi':Nat}(h:dF p c lo hi)(h1:lo<=lo')(h2:hi'<=hi)(e:∀k,lo'<=k->k<hi'->nth c.types k=nth c'.types k/\nth c.slots k=nth c'.slots k/\nth c.ao k=nth c'.ao k):dF p c' lo' hi':=fun k h3 h4=>by obtain⟨a,b,b'⟩:=h k jB jB;obtain⟨d,f,f'⟩:=e k h3 h4;exact⟨a.trans d,b.trans f,b'.trans f'⟩
structure xh(t:az)(lo hi:Nat)(c c':Ck):Prop where
 ty:fW t lo hi c c'
 sl:fG t lo hi c c'
 fx:Fx (fun k=>lo<=k/\k<hi) c c'
theorem Fx.out{hi:Nat}{c:Ck}(h:Fx (fun k=>lo<=k/\k<hi) c c')(k:Nat)(hk:k<lo\/hi<=k):nth c'.ao k=nth c.ao k:=by
 rcases h.at_ k with e|⟨e,_⟩
 ·exact e
 ·omega
theorem xh.out{t:az}{lo hi:Nat}{c c':Ck}(h:xh t lo hi c c')(k:Nat)(hk:k<lo\/hi<=k):nth c'.types k=nth c.types k/\nth c'.slots k=nth c.slots k/\nth c'.ao k=nth c.ao k:=⟨h.ty.tw k hk,h.sl.sw k hk,h.fx.out k hk⟩
variable{t:az}{n:Nat}{a:Int}
theorem B4(ht:aH t){c:Ck}(h:bu c)(hc:c.aa=t)(hv:bR c)(hs:bZ c)(h0:0<=a)(h1:a<t.nodes.length)(hn:a.toNat<n)(hr:dW (bt t.nodes a))(hch:aG t.nodes lo (nth t.nodes a.toNat).l a.toNat)(he:(ar n c a).1.e=0) :
  xh t lo (a.toNat+1) c (ar n c a).1/\nth (ar n c a).1.types a.toNat=(ar n c a).2:=by
 obtain⟨r1,r2,_⟩:=tS ht n c a lo h hc hv h0 h1 hn hr hch he;exact⟨⟨r1,vu ht n c a lo h hc hs h0 h1 hn hr hch he,Cu ht (uI ht (aG.kM h0 h1 hch) jB) n c a hc ⟨hch.le,jB⟩ hr⟩,r2⟩
theorem Fs{t:az}(ht:aH t){n:Nat}:∀(L:List Int) (c:Ck) (ts:List Int) (lo hi:Nat),bu c->c.aa=t->bR c->bZ c->hi<=n->hi<=t.nodes.length->(∀x∈L,dW (bt t.nodes x))->aG t.nodes lo L hi->(fO (ar n) c L ts).1.e=0->(fO (ar n) c L ts).2=ts++L.map fun x=>nth (fO (ar n) c L ts).1.types x.toNat
 |[],c,ts,lo,hi,h,hc,hv,hs,hn,hl,hr,hch,he=>by simp[fO]
 |a::L,c,ts,lo,hi,h,hc,hv,hs,hn,hl,hr,hch,he=>by
  have e0:=(qz (dw n) (a::L) c ts).e0 he;unfold fO at he ⊢;rw[if_pos e0]at he ⊢;obtain⟨c1,c2,c3,c4,c5,c6⟩:=iz hch;have ev:=dw n c a;have e1:=(qz (dw n) L _ _).e0 he;obtain⟨r1,r2⟩:=B4 ht h hc hv hs c1 c2 jB (hr a jE) c5 e1;have hr':∀x∈L,dW (bt t.nodes x):=fun x hx=>hr x (by simp[hx])
  have k1:=BH ht (tS ht n) L (ar n c a).1 (ts++[(ar n c a).2]) (a.toNat+1) hi (h.ev ev) (ev.aa.trans hc) (hv.ev ev) hn hl hr' c6 he;have k2:=Fs ht L (ar n c a).1 (ts++[(ar n c a).2]) (a.toNat+1) hi (h.ev ev) (ev.aa.trans hc) (hv.ev ev) (hs.ev ev) hn hl hr' c6 he;rw[k2,List.map_cons,k1.tw a.toNat (.inl jB),r2];simp
theorem GW(a:Int):∀(ts:List Int) (ps:List bE) (c:Ck),(gL a c ts ps).e=0->c.e=0/\∀i,i<ts.length->i<ps.length->nth ts i=(nth ps i).ty
 |[],ps,c,h=>by rw[rF]at h;exact⟨h,fun i hi=>by simp at hi⟩
 |_::_,[],c,h=>by rw[rA]at h;exact⟨h,fun i _ hi=>by simp at hi⟩
 |x::ts,p::ps,c,h=>by
  unfold gL at h;split at h
  ·rename_i e;obtain⟨h1,h2⟩:=GW a ts ps _ h;obtain⟨h3,h4⟩:=im h1;refine⟨h4,fun i hi hi'=>?_⟩;cases i with
   |zero=>exact of_decide_eq_true h3
   |succ i=>exact h2 i (by simpa using hi) (by simpa using hi')
  ·rename_i e;exact(e h).elim
theorem Rk(ht:aH t){c:Ck}(h:bu c)(hc:c.aa=t)(hv:bR c)(hs:bZ c)(h0:0<=a)(h1:a<t.nodes.length)(hn:a.toNat<n)(hk:(nth t.nodes a.toNat).kind=21)(hch:aG t.nodes lo (nth t.nodes a.toNat).l a.toNat)(he:(ar n c a).1.e=0)(hp:p.aa=t)(hA:dF p (ar n c a).1 lo (a.toNat+1)):pK p a:=by
 obtain⟨m,rfl⟩:∃m,n=m+1:=⟨n-1,jB⟩;have hr:dW (bt t.nodes a):=by have:bt t.nodes a=21:=hk;rw[this];unfold dW;omega
 obtain⟨_,hty⟩:=B4 ht h hc hv hs h0 h1 hn hr hch he;have e0:=(dw (m+1) c a).e0 he;have hnode:c.node a=nth t.nodes a.toNat:=by unfold Ck.node;rw[hc]
 have hndp:ai p a=nth t.nodes a.toNat:=by unfold ai;rw[hp]
 have e:bV (ar m) c a=gq (ar m) c a:=by unfold bV;simp only;rw[hnode,hk];rfl
 have hcal:fz c a=uS p a:=by unfold fz uS;rw[hnode,hndp,hc,hp]
 have hcall:=(ht.shape a.toNat jB).1.call hk;have hex:ar (m+1) c a=((gq (ar m) c a).1.note a (gq (ar m) c a).2,(gq (ar m) c a).2):=by
  conv=>lhs;unfold ar
  rw[jN,e]
 rw[hex]at he hA hty;have he:(gq (ar m) c a).1.e=0:=he;have hAa:=(hA a.toNat hch.le jB).1;have hty:nth ((gq (ar m) c a).1.note a (gq (ar m) c a).2).types a.toNat=(gq (ar m) c a).2:=hty;unfold gq at he hA hAa hty;split at he
 ·exact(mi jC he).elim
 rename_i hf;rw[if_neg hf]at hA hAa hty;simp only at he hA hAa hty;obtain⟨e1,e2⟩:=GW _ _ _ _ he;have e1':=e1;split at e1'
 ·exact(mi jC e1').elim
 rename_i hl;rw[if_neg hl]at hA;have hrl:∀x∈(c.node a).l,dW (bt t.nodes x):=fun x hx=>.inl (hcall x (by rw[<-hnode];exact hx))
 have hchl:aG t.nodes lo (c.node a).l a.toNat:=by rw[hnode];exact hch
 have k2:=Fs ht (n:=m) (c.node a).l c [] lo a.toNat h hc hv hs jB jB hrl hchl e1';rw[List.nil_append]at k2;refine⟨?_,fun i hi=>?_⟩
 ·rw[hAa,hty,hcal,hc,hp]
 ·rw[hndp,<-hnode]at hi ⊢;have hpl:i<(nth c.aa.ao (fz c a).toNat).params.length:=jB;have h3:=e2 i (by rw[k2,List.length_map];exact hi) hpl;rw[k2,dN (by rw[List.length_map];exact hi),List.getElem_map]at h3;have hm:=(ht.shape a.toNat jB).2.1 _ (by rw[<-hnode];exact dT hi);have hlo:=(hchl.mem _ (dT hi)).2.1;have hA1:=(hA (nth (c.node a).l i).toNat hlo jB).1;rw[hA1];show nth (List.set (gL a _ _ _).types a.toNat _) _=_;rw[oJ,jN,zY,<-hcal,hp,<-hc,<-h3,dN hi]
variable{nm:ByteArray}
theorem GB{c:Ck}(h:¬0<=c.find nm):∀v∈c.vars,v.name≠nm:=by
 rcases wH bC.name nm c.vars 0 jB with⟨_,h2⟩|h1
 ·exact h2
 ·exact(h h1.1).elim
theorem Qo{c:Ck}(h:¬c.find nm<0):nth c.vars (c.find nm).toNat∈c.vars/\(nth c.vars (c.find nm).toNat).name=nm:=by
 have key:∀(l:List bC) (i:Int),0<=i->gj bC.name nm l i=-1\/(nth l (gj bC.name nm l i-i).toNat∈l/\(nth l (gj bC.name nm l i-i).toNat).name=nm/\i<=gj bC.name nm l i):=fun l=>by
  induction l with
  |nil=>intro i _;exact .inl rfl
  |cons v l ih=>
   intro i hi;unfold gj;by_cases hv:v.name=nm
   ·rw[if_pos hv,show(i-i).toNat=0 from jB];exact .inr ⟨by show v∈_;simp,hv,Int.le_refl _⟩
   ·rw[if_neg hv];rcases ih (i+1) jB with e|⟨a,b,d⟩
    ·exact .inl e
    ·rw[show(gj bC.name nm l (i+1)-i).toNat=(gj bC.name nm l (i+1)-(i+1)).toNat+1 from jB];exact .inr ⟨List.mem_cons_of_mem _ a,b,jB⟩
 rcases key c.vars 0 (Int.le_refl _)with e|⟨a,b,_⟩
 ·exact(h (by show gj bC.name nm c.vars 0<0;rw[e];decide)).elim
 ·rw[Int.sub_zero]at a b;exact⟨a,b⟩
theorem CZ{c:Ck}(hsl:a.toNat<c.slots.length)(he:(c.named a).1.e=0)(hA:nth p.slots a.toNat=nth c'.slots a.toNat)(hsame:nth c'.slots a.toNat=nth (c.named a).1.slots a.toNat):∃v∈c.vars,v.name=(c.node a).name/\v.slot=nth p.slots a.toNat/\v.ty=(c.named a).2:=by
 rw[hA,hsame];unfold Ck.named at he ⊢;split at he
 ·exact(mi jC he).elim
 rename_i hf;rw[if_neg hf];obtain⟨h1,h2⟩:=Qo hf;refine⟨_,h1,h2,?_,rfl⟩;show _=nth (List.set _ _ _) _;rw[oJ,if_pos ⟨rfl,hsl⟩]
def ya(t:az)(n:Nat):Prop:=∀(c:Ck) (a:Int) (lo:Nat),bu c->c.aa=t->bR c->bZ c->c.e=0->0<=a->a<t.nodes.length->a.toNat<n->dL (bt t.nodes a)->aG t.nodes lo (nth t.nodes a.toNat).l a.toNat->(bv n c a).e=0->
 ∀p:ab,p.aa=t->dF p (bv n c a) lo (a.toNat+1)->∀j:Nat,c.fn=(j:Int)->(∀m,xk p j (nZ p j m) c.vars a)/\(bv n c a).vars=ou p a c.vars
theorem Jp(ht:aH t){c:Ck}(h:bu c)(hc:c.aa=t)(hv:bR c)(hs:bZ c)(e0:c.e=0)(h0:0<=a)(h1:a<t.nodes.length)(hn:a.toNat<n)(hr:dL (bt t.nodes a))(hch:aG t.nodes lo (nth t.nodes a.toNat).l a.toNat)(he:(bv n c a).e=0) :
  xh t lo (a.toNat+1) c (bv n c a)/\bR (bv n c a)/\bZ (bv n c a):=by
 obtain⟨r1,r2⟩:=uM ht n c a lo h hc hv e0 h0 h1 hn hr hch he;obtain⟨r3,r4⟩:=uR ht n c a lo h hc hs e0 h0 h1 hn hr hch he;exact⟨⟨r1,r3,uB ht (uI ht (aG.kM h0 h1 hch) jB) n c a hc ⟨hch.le,jB⟩ hr⟩,r2,r4⟩
theorem Gc{t:az}(ht:aH t){n:Nat}(hst:ya t n):∀(L:List Int) (c:Ck) (lo hi:Nat),bu c->c.aa=t->bR c->bZ c->hi<=n->hi<=t.nodes.length->(∀x∈L,dL (bt t.nodes x))->aG t.nodes lo L hi->(de (bv n) c L).e=0->
  ∀p:ab,p.aa=t->dF p (de (bv n) c L) lo hi->∀j:Nat,c.fn=(j:Int)->∀m,uK (xk p j (nZ p j m)) p c.vars L
 |[],c,lo,hi,h,hc,hv,hs,hn,hl,hr,hch,he,p,hp,hA,j,hj,m=>trivial
 |a::L,c,lo,hi,h,hc,hv,hs,hn,hl,hr,hch,he,p,hp,hA,j,hj,m=>by
  have e0:=(og (kY n) (a::L) c h).e0 he;unfold de at he hA;rw[if_pos e0]at he hA;obtain⟨c1,c2,c3,c4,c5,c6⟩:=iz hch;have s:=kY n c a h e0;have e1:=(og (kY n) L _ s.inv).e0 he;have hra:=hr a jE;obtain⟨r1,v1,v2⟩:=Jp ht h hc hv hs e0 c1 c2 jB hra c5 e1;have hr':∀x∈L,dL (bt t.nodes x):=fun x hx=>hr x (by simp[hx])
  have k1:=(wP ht (kY n) (C:=dL) (fun q b l g1 g2 g3 g4 g5 g6 g7 g8 g9 g10=>uM ht n q b l g1 g2 g3 g4 g5 g6 g7 g8 g9 g10) L _ _ hi s.inv (s.aa.trans hc) v1 hn hl hr' c6 he).1;have k2:=(wN (kY n) (C:=dL) (uR ht n) L _ _ hi s.inv (s.aa.trans hc) v2 hn hr' c6 he).1;have hI:=uI ht c6 hl;have k3:=vY (t:=t) (I:=fun k=>a.toNat+1<=k/\k<hi) (C:=dL) (uB ht hI n) L (bv n c a) (s.aa.trans hc) fun x hx=>⟨⟨(c6.mem x hx).2.1,(c6.mem x hx).2.2.1⟩,hr' x hx⟩
  obtain⟨w1,w2⟩:=hst c a lo h hc hv hs e0 c1 c2 jB hra c5 e1 p hp (hA.sub jl jB fun k g1 g2=>⟨k1.tw k (.inl jB),k2.sw k (.inl jB),k3.out k (.inl jB)⟩) j hj;refine⟨w1 m,?_⟩;have w3:=Gc ht hst L _ (a.toNat+1) hi s.inv (s.aa.trans hc) v1 v2 hn hl hr' c6 he p hp (hA.sub jB jl fun k g1 g2=>⟨rfl,rfl,rfl⟩) j (s.fn.trans hj) m;rw[w2]at w3;exact w3
theorem Eh(ht:aH t)(hst:ya t n){c:Ck}(h:bu c)(hc:c.aa=t)(hv:bR c)(hs:bZ c)(h0:0<=a)(h1:a<t.nodes.length)(hn:a.toNat<=n)(hk:bt t.nodes a=18)(hch:aG t.nodes lo (nth t.nodes a.toNat).l a.toNat)(he:(dZ (bv n) c a).e=0)(hp:p.aa=t)(hA:dF p (dZ (bv n) c a) lo (a.toNat+1)){j:Nat}(hj:c.fn=(j:Int)):∀m,nZ p j m c.vars a
 |0=>trivial
 |m+1=>by
  have hnode:c.node a=nth t.nodes a.toNat:=by unfold Ck.node;rw[hc]
  have hb:=(ht.shape a.toNat jB).1.block hk;have ev:=pw c a;show uK _ p c.vars (ai p a).l;have hnp:(ai p a).l=(c.node a).l:=by unfold ai;rw[hp,hnode]
  rw[hnp];exact Gc ht hst (c.node a).l (c.ac a) lo a.toNat (h.ev ev) (ev.aa.trans hc) (hv.ev ev) (hs.ev ev) hn jB (fun x hx=>hb x (by rw[<-hnode];exact hx)) (by rw[hnode];exact hch) he p hp (hA.sub jl jB fun k _ _=>⟨rfl,rfl,rfl⟩) j hj m
theorem C5{t:az}(ht:aH t){n:Nat}(hst:ya t n):∀(L:List Int) (c:Ck) (lo hi:Nat),bu c->c.aa=t->bR c->bZ c->hi<=n->hi<=t.nodes.length->(∀x∈L,bt t.nodes x=18)->aG t.nodes lo L hi->(de (dZ (bv n)) c L).e=0->
  ∀p:ab,p.aa=t->dF p (de (dZ (bv n)) c L) lo hi->∀j:Nat,c.fn=(j:Int)->(∀b∈L,∀m,nZ p j m c.vars b)/\(de (dZ (bv n)) c L).vars=c.vars
 |[],c,lo,hi,h,hc,hv,hs,hn,hl,hr,hch,he,p,hp,hA,j,hj=>⟨fun b hb=>by simp at hb,rfl⟩
 |a::L,c,lo,hi,h,hc,hv,hs,hn,hl,hr,hch,he,p,hp,hA,j,hj=>by
  have hsb:∀(q:Ck) b,bu q->q.e=0->Sv q (dZ (bv n) q b):=fun q b hq _=>(oZ (kY n) hq b).1
  have e0:=(og hsb (a::L) c h).e0 he;unfold de at he hA ⊢;rw[if_pos e0]at he hA ⊢;obtain⟨c1,c2,c3,c4,c5,c6⟩:=iz hch;obtain⟨s,sv⟩:=oZ (kY n) h a;have e1:=(og hsb L _ s.inv).e0 he;have hra:=hr a jE;have r1:=yO ht (uM ht n) c a lo h hc hv c1 c2 jB hra c5 e1;have r2:=zr ht (uR ht n) c a lo h hc hs c1 c2 jB hra c5 e1;have hr':∀x∈L,bt t.nodes x=18:=fun x hx=>hr x (by simp[hx])
  have k1:=(wP ht hsb (C:=fun k=>k=18) (n:=n) (fun q b l g1 g2 g3 _ g5 g6 g7 g8 g9 g10=>yO ht (uM ht n) q b l g1 g2 g3 g5 g6 jB g8 g9 g10) L _ _ hi s.inv (s.aa.trans hc) r1.2 hn hl hr' c6 he).1;have k2:=(wN hsb (C:=fun k=>k=18) (n:=n) (fun q b l g1 g2 g3 _ g5 g6 g7 g8 g9 g10=>zr ht (uR ht n) q b l g1 g2 g3 g5 g6 jB g8 g9 g10) L _ _ hi s.inv (s.aa.trans hc) r2.2 hn hr' c6 he).1;have hI:=uI ht c6 hl;have k3:=vY (t:=t) (I:=fun k=>a.toNat+1<=k/\k<hi) (C:=fun k=>k=18) (fun d b hd hb hk=>A7 ht hI (uB ht hI n) d b hd hb hk) L (dZ (bv n) c a) (s.aa.trans hc) fun x hx=>⟨⟨(c6.mem x hx).2.1,(c6.mem x hx).2.2.1⟩,hr' x hx⟩
  have w1:=Eh ht hst h hc hv hs c1 c2 jB hra c5 e1 hp (hA.sub jl jB fun k g1 g2=>⟨k1.tw k (.inl jB),k2.sw k (.inl jB),k3.out k (.inl jB)⟩) hj;obtain⟨w2,w3⟩:=C5 ht hst L _ (a.toNat+1) hi s.inv (s.aa.trans hc) r1.2 r2.2 hn hl hr' c6 he p hp (hA.sub jB jl fun k g1 g2=>⟨rfl,rfl,rfl⟩) j (s.fn.trans hj);rw[sv]at w2;refine⟨fun b hb=>?_,w3.trans sv⟩;rcases List.mem_cons.1 hb with rfl|hb
  ·exact w1
  ·exact w2 b hb
theorem Hw(c:Ck)(b:Bool)(a:Int):(c.ap b a).ao=c.ao:=by
 unfold Ck.ap;split
 ·rfl
 ·unfold Ck.aF;split<;>rfl
theorem tX{vars:List bC}(h:(ai p a).kind≠10):ou p a vars=vars:=if_neg h
theorem xI(ht:aH t){c0:Ck}{x:Int}(h:bu c0)(hc:c0.aa=t)(hv:bR c0)(hs:bZ c0)(hn:a.toNat<=n)(hl:(nth t.nodes a.toNat).l=[x])(hx:dW (bt t.nodes x))(hch:aG t.nodes lo (nth t.nodes a.toNat).l a.toNat)(he:(ar n c0 x).1.e=0) :
  xh t lo a.toNat c0 (ar n c0 x).1/\nth (ar n c0 x).1.types x.toNat=(ar n c0 x).2/\lo<=x.toNat/\x.toNat<a.toNat/\∀{p:ab},p.aa=t->(nth t.nodes x.toNat).kind=21->dF p (ar n c0 x).1 lo a.toNat->pK p x:=by
 rw[hl]at hch;obtain⟨c1,c2,c3,c4,c5⟩:=jT hch;rw[c4];obtain⟨r1,r2⟩:=B4 ht h hc hv hs c1 c2 jB hx c5 he;exact⟨r1,r2,c3,jB,fun hp hk hA=>Rk ht h hc hv hs c1 c2 jB hk c5 he hp hA⟩
theorem GV{t:az}(ht:aH t):∀n,ya t n
 |0=>fun c a lo h hc hv hs e0 h0 h1 hn=>by omega
 |n+1=>fun c a lo h hc hv hs e0 h0 h1 hn hr hch he p hp hA j hj=>by
  have ih:=GV ht n;have hnode:(c.ac a).node a=nth t.nodes a.toNat:=by unfold Ck.node;show nth c.aa.nodes _=_;rw[hc]
  have sh:=(ht.shape a.toNat jB).1;have kd:∀i,(c.ac a).ay a i=nth (nth t.nodes a.toNat).l i:=fun i=>by unfold Ck.ay;rw[hnode]
  have hnd:ai p a=nth t.nodes a.toNat:=by unfold ai;rw[hp]
  have ndp:∀x:Int,ai p x=nth t.nodes x.toNat:=fun x=>by unfold ai;rw[hp]
  have ev:=pw c a;have h':=h.ev ev;have hc':=ev.aa.trans hc;have hv':=hv.ev ev;have hs':=hs.ev ev;have hlo:=hch.le;have hkr:(nth t.nodes a.toNat).kind=10\/(nth t.nodes a.toNat).kind=11\/(nth t.nodes a.toNat).kind=12\/(nth t.nodes a.toNat).kind=13\/(nth t.nodes a.toNat).kind=14\/(nth t.nodes a.toNat).kind=17\/(nth t.nodes a.toNat).kind=15\/(nth t.nodes a.toNat).kind=16:=by have:dL (nth t.nodes a.toNat).kind:=hr;unfold dL at this;omega
  have hsl:a.toNat<(c.ac a).slots.length:=by rw[h'.slots,hc'];omega
  have hfn:nth p.fn a.toNat=(j:Int):=by
   rw[(hA a.toNat hlo jB).2.2,<-hj];have hI:=uI ht (aG.kM h0 h1 hch) jB;have fx:=FA ht hI (uB ht hI n) c a hc ⟨hlo,jB⟩ hr;rcases fx.at_ a.toNat with e|⟨_,e⟩
   ·rw[e];show nth (c.ao.set a.toNat c.fn) a.toNat=_;rw[oJ,if_pos ⟨rfl,by rw[h.ao,hc];omega⟩]
   ·exact e
  rcases hkr with k|k|k|k|k|k|k
  ·have e:bv (n+1) c a=oB (ar n) (c.ac a) a:=by unfold bv;simp only;rw[hnode,k];rfl
   obtain⟨x,hl,hxr⟩:=sh.right jB;have hk0:(c.ac a).ay a 0=x:=by rw[kd,hl];rfl
   rw[e]at he hA ⊢;rw[sc]at he hA ⊢;have he:(dz (ar n) (c.ac a) a).e=0:=he;have hel:=wQ (dw n) (c.ac a) a;obtain⟨_,q1⟩:=tC jC he;have q1:dz (ar n) (c.ac a) a=iR (ar n) (c.ac a) a:=q1;have heC:=he;rw[q1]at he;obtain⟨q3,q2⟩:=tC jC he;have q2:iR (ar n) (c.ac a) a=gr (ar n) (c.ac a) a:=q2;rw[q2]at he;unfold gr at he;rw[hk0]at he;obtain⟨b1,b2⟩:=im he;obtain⟨r1,r2,r3,r4,r5⟩:=xI ht h' hc' hv' hs' jB hl hxr hch b2;have hty:(dz (ar n) (c.ac a) a).types=(ar n (c.ac a) x).1.types:=by rw[q1,q2];unfold gr;rw[hk0];exact kf _ _ _
   have hslt:(dz (ar n) (c.ac a) a).slots=(ar n (c.ac a) x).1.slots:=by rw[q1,q2];unfold gr;rw[hk0];exact(qU _ _ _).1
   have hA1:dF p (ar n (c.ac a) x).1 lo a.toNat:=hA.sub jl jB fun i g1 g2=>⟨by show nth (dz (ar n) (c.ac a) a).types i=_;rw[hty],by show nth (List.set _ _ _) i=_;rw[oJ,jN,hslt],by show nth (dz (ar n) (c.ac a) a).ao i=_;rw[q1,q2];unfold gr;rw[hk0,Hw]⟩
   have hAx:=(hA1 x.toNat r3 r4).1;have hslC:a.toNat<(dz (ar n) (c.ac a) a).slots.length:=by rw[hel.slots];exact hsl
   have hAs:nth p.slots a.toNat=(dz (ar n) (c.ac a) a).size:=by rw[(hA a.toNat hlo jB).2.1];show nth (List.set _ _ _) _=_;rw[oJ,if_pos ⟨rfl,hslC⟩]
   have hl0:nth (ai p a).l 0=x:=by rw[hnd,hl];rfl
   have hvars:(gr (ar n) (c.ac a) a).vars=c.vars:=(yi (dw n) (c.ac a) a).vars;refine⟨fun m=>⟨hfn,fun _ v hv1=>⟨?_,?_⟩,fun k'=>?_,fun k'=>?_,fun _ k'=>?_,fun k'=>?_,fun k'=>?_⟩,?_⟩
   ·have:=GB q3 v (by rw[hvars];exact hv1);rw[hnd,<-hnode];exact this
   ·have:=hs.2 v hv1;have hz:(dz (ar n) (c.ac a) a).size=c.size:=hel.size;rw[hAs,hz];omega
   ·rw[hnd]at k';omega
   ·rw[hnd]at k';omega
   ·rw[hl0]at k' ⊢;rw[ndp]at k';exact r5 hp k' hA1
   ·rw[hnd]at k';omega
   ·rw[hnd]at k';omega
   ·show(dz (ar n) (c.ac a) a).vars++[(⟨((c.ac a).node a).name,(ar n (c.ac a) ((c.ac a).ay a 0)).2,(dz (ar n) (c.ac a) a).size⟩:bC)]=ou p a c.vars;unfold ou DI;rw[if_pos (by rw[hnd];exact k),hk0,<-hAs,hl0,hAx,r2,hnode,hnd,q1,q2,hvars]
  ·have e:bv (n+1) c a=(ar n ((c.ac a).named a).1 ((c.ac a).ay a 0)).1.ap (decide (((c.ac a).named a).2=(ar n ((c.ac a).named a).1 ((c.ac a).ay a 0)).2)) a:=by unfold bv;simp only;rw[hnode,k];rfl
   obtain⟨x,hl,hxr⟩:=sh.right jB;have hk0:(c.ac a).ay a 0=x:=by rw[kd,hl];rfl
   rw[e]at he hA ⊢;rw[hk0]at he hA ⊢;obtain⟨b1,b2⟩:=im he;have en:=mG (c.ac a) a;obtain⟨r1,r2,r3,r4,r5⟩:=xI ht (h'.ev en) (en.aa.trans hc') (hv'.ev en) (hs'.ev en) jB hl hxr hch b2;have hA1:dF p (ar n ((c.ac a).named a).1 x).1 lo (a.toNat+1):=hA.sub jl jl fun i _ _=>⟨by rw[kf],by rw[(qU _ _ _).1],by rw[Hw]⟩
   have hAx:=(hA1 x.toNat r3 jB).1;obtain⟨v,v1,v2,v3,v4⟩:=CZ (c':=(ar n ((c.ac a).named a).1 x).1) hsl ((dw n _ x).e0 b2) (hA1 a.toNat hlo jB).2.1 (r1.out a.toNat (.inr jl)).2.1;have hl0:nth (ai p a).l 0=x:=by rw[hnd,hl];rfl
   refine⟨fun m=>⟨hfn,fun k'=>?_,fun _=>⟨v,v1,?_,v3,?_⟩,fun k'=>?_,fun _ k'=>?_,fun k'=>?_,fun k'=>?_⟩,?_⟩
   ·rw[hnd]at k';omega
   ·rw[v2,hnode,hnd]
   ·rw[v4,hl0,hAx,r2];exact of_decide_eq_true b1
   ·rw[hnd]at k';omega
   ·rw[hl0]at k' ⊢;rw[ndp]at k';exact r5 hp k' (hA1.sub jl jB fun _ _ _=>⟨rfl,rfl,rfl⟩)
   ·rw[hnd]at k';omega
   ·rw[hnd]at k';omega
   ·rw[tX (by rw[hnd];omega)];exact((((ev.trans en).trans (dw n _ x)).trans (iG _ _ _)).vars)
  ·have e:bv (n+1) c a=(ar n (ar n ((c.ac a).named a).1 ((c.ac a).ay a 0)).1 ((c.ac a).ay a 1)).1.ap (decide (((c.ac a).named a).2=4) && decide ((ar n ((c.ac a).named a).1 ((c.ac a).ay a 0)).2=1) && decide ((ar n (ar n ((c.ac a).named a).1 ((c.ac a).ay a 0)).1 ((c.ac a).ay a 1)).2=1)) a:=by unfold bv;simp only;rw[hnode,k];rfl
   obtain⟨x,y,hl,hxe,hye⟩:=sh.two jB;have hk0:(c.ac a).ay a 0=x:=by rw[kd,hl];rfl
   have hk1:(c.ac a).ay a 1=y:=by rw[kd,hl];rfl
   rw[e]at he hA ⊢;rw[hk0,hk1]at he hA ⊢;obtain⟨b1,b2⟩:=im he;have en:=mG (c.ac a) a;have r1:=Ii ht (h'.ev en) (en.aa.trans hc') (hs'.ev en) jB hl hxe hye hch b2;obtain⟨v,v1,v2,v3,v4⟩:=CZ (p:=p) (c':=(ar n (ar n ((c.ac a).named a).1 x).1 y).1) hsl ((dw n _ x).e0 ((dw n _ y).e0 b2)) (by rw[(hA a.toNat hlo jB).2.1,(qU _ _ _).1]) (r1.sw a.toNat (.inr jl));rw[Bool.and_eq_true,Bool.and_eq_true]at b1;refine⟨fun m=>⟨hfn,fun k'=>?_,fun k'=>?_,fun _=>⟨v,v1,?_,v3,?_⟩,fun k'=>?_,fun k'=>?_,fun k'=>?_⟩,?_⟩
   ·rw[hnd]at k';omega
   ·rw[hnd]at k';omega
   ·rw[v2,hnode,hnd]
   ·rw[v4];exact of_decide_eq_true b1.1.1
   ·rw[hnd]at k';omega
   ·rw[hnd]at k';omega
   ·rw[hnd]at k';omega
   ·rw[tX (by rw[hnd];omega)];exact(((((ev.trans en).trans (dw n _ x)).trans (dw n _ y)).trans (iG _ _ _)).vars)
  ·have e:bv (n+1) c a=(ar n (c.ac a) ((c.ac a).ay a 0)).1:=by unfold bv;simp only;rw[hnode,k];rfl
   obtain⟨x,hl,hxk⟩:=sh.nL k;have hk0:(c.ac a).ay a 0=x:=by rw[kd,hl];rfl
   rw[e]at he hA ⊢;rw[hk0]at he hA ⊢;obtain⟨r1,r2,r3,r4,r5⟩:=xI ht h' hc' hv' hs' jB hl (by rw[hxk];unfold dW;omega) hch he;have hl0:nth (ai p a).l 0=x:=by rw[hnd,hl];rfl
   refine⟨fun m=>⟨hfn,fun k'=>?_,fun k'=>?_,fun k'=>?_,fun _ k'=>?_,fun k'=>?_,fun k'=>?_⟩,?_⟩
   ·rw[hnd]at k';omega
   ·rw[hnd]at k';omega
   ·rw[hnd]at k';omega
   ·rw[hl0]at k' ⊢;rw[ndp]at k';exact r5 hp k' (hA.sub jl jB fun _ _ _=>⟨rfl,rfl,rfl⟩)
   ·rw[hnd]at k';omega
   ·rw[hnd]at k';omega
   ·rw[tX (by rw[hnd];omega)];exact(ev.trans (dw n _ x)).vars
  ·have e:bv (n+1) c a=(ar n (c.ac a) ((c.ac a).ay a 0)).1.ap (!decide ((ar n (c.ac a) ((c.ac a).ay a 0)).2=4)) a:=by unfold bv;simp only;rw[hnode,k];rfl
   rw[e];refine⟨fun m=>⟨hfn,fun k'=>?_,fun k'=>?_,fun k'=>?_,fun k'=>?_,fun k'=>?_,fun k'=>?_⟩,?_⟩
   ·rw[hnd]at k';omega
   ·rw[hnd]at k';omega
   ·rw[hnd]at k';omega
   ·rw[hnd]at k';omega
   ·rw[hnd]at k';omega
   ·rw[hnd]at k';omega
   ·rw[tX (by rw[hnd];omega)];exact((ev.trans (dw n _ _)).trans (iG _ _ _)).vars
  ·have e:bv (n+1) c a=jZ (ar n) (c.ac a) a:=by unfold bv;simp only;rw[hnode,k];rfl
   rw[e]at he hA ⊢;unfold jZ at he hA ⊢;rw[hnode]at he hA ⊢;simp only at he hA ⊢;split at he
   ·exact(mi jC he).elim
   rename_i hf;rw[if_neg hf]at hA ⊢;have hft:(nth (c.ac a).aa.ao (c.ac a).fn.toNat).ret=(nth p.aa.ao j).ret:=by show(nth c.aa.ao c.fn.toNat).ret=_;rw[hc,hj,hp];rfl
   rw[hft]at hf he hA ⊢;rcases sh.ret k with hl|⟨x,hl,hxe⟩
   ·rw[hl]at hf ⊢;rw[if_neg jC];have hz:(nth p.aa.ao j).ret=0:=by
     have hf:=Classical.not_not.1 hf;rw[show decide (([]:List Int).length=1)=false from rfl]at hf;exact Classical.byContradiction fun hne=>by rw[decide_eq_false hne]at hf;cases hf
    refine⟨fun m=>⟨hfn,fun k'=>?_,fun k'=>?_,fun k'=>?_,fun k'=>?_,fun _=>⟨fun k'=>?_,fun _=>hz⟩,fun k'=>?_⟩,?_⟩
    ·rw[hnd]at k';omega
    ·rw[hnd]at k';omega
    ·rw[hnd]at k';omega
    ·rw[hnd]at k';omega
    ·rw[hnd,hl]at k';cases k'
    ·rw[hnd]at k';omega
    ·rw[tX (by rw[hnd];omega)];exact ev.vars
   ·have hk0:(c.ac a).ay a 0=x:=by rw[kd,hl];rfl
    have hl1:(nth t.nodes a.toNat).l.length=1:=by rw[hl];rfl
    rw[if_pos hl1]at he hA ⊢;rw[hk0]at he hA ⊢;obtain⟨b1,b2⟩:=im he;obtain⟨r1,r2,r3,r4,r5⟩:=xI ht h' hc' hv' hs' jB hl (.inl hxe) hch b2;have hl0:nth (ai p a).l 0=x:=by rw[hnd,hl];rfl
    refine⟨fun m=>⟨hfn,fun k'=>?_,fun k'=>?_,fun k'=>?_,fun k'=>?_,fun _=>⟨fun _=>?_,fun k'=>?_⟩,fun k'=>?_⟩,?_⟩
    ·rw[hnd]at k';omega
    ·rw[hnd]at k';omega
    ·rw[hnd]at k';omega
    ·rw[hnd]at k';omega
    ·rw[hl0,(hA x.toNat r3 jB).1,kf,r2];exact of_decide_eq_true b1
    ·rw[hnd,hl]at k';exact(k' rfl).elim
    ·rw[hnd]at k';omega
    ·rw[tX (by rw[hnd];omega)];exact((ev.trans (dw n _ x)).trans (iG _ _ _)).vars
  ·have e:bv (n+1) c a=de (dZ (bv n)) ((ar n (c.ac a) ((c.ac a).ay a 0)).1.ap (decide ((ar n (c.ac a) ((c.ac a).ay a 0)).2=2)) a) (((c.ac a).node a).l.drop 1):=by
    unfold bv;simp only;rw[hnode];rcases k with k|k<;>rw[k]<;>rfl
   have hsh:∃x L,(nth t.nodes a.toNat).l=x::L/\bQ (bt t.nodes x)/\∀y∈L,bt t.nodes y=18:=by
    rcases k with k|k
    ·obtain⟨x,y,hx,hy,hl|⟨z,hl,hz⟩⟩:=sh.kz k
     ·exact⟨x,[y],hl,hx,fun u hu=>by rw[List.mem_singleton.1 hu];exact hy⟩
     ·exact⟨x,[y,z],hl,hx,fun u hu=>by
       rcases List.mem_cons.1 hu with rfl|hu
       ·exact hy
       ·rw[List.mem_singleton.1 hu];exact hz⟩
    ·obtain⟨x,y,hl,hx,hy⟩:=sh.dS k;exact⟨x,[y],hl,hx,fun u hu=>by rw[List.mem_singleton.1 hu];exact hy⟩
   obtain⟨x,L,hl,hxe,hL⟩:=hsh;have hk0:(c.ac a).ay a 0=x:=by rw[kd,hl];rfl
   rw[e]at he hA ⊢;rw[hnode,hl,hk0]at he hA ⊢;have he:(de (dZ (bv n)) ((ar n (c.ac a) x).1.ap (decide ((ar n (c.ac a) x).2=2)) a) L).e=0:=he;have hA:dF p (de (dZ (bv n)) ((ar n (c.ac a) x).1.ap (decide ((ar n (c.ac a) x).2=2)) a) L) lo (a.toNat+1):=hA;have ex:=(dw n (c.ac a) x).trans (iG _ (decide ((ar n (c.ac a) x).2=2)) a);have hin:=h'.ev ex;rw[hl]at hch;obtain⟨c1,c2,c3,c4,c5,c6⟩:=iz hch;obtain⟨w1,w2⟩:=C5 ht ih L _ (x.toNat+1) a.toNat hin (ex.aa.trans hc') (hv'.ev ex) (hs'.ev ex) jB jB hL c6 he p hp (hA.sub jB jB fun _ _ _=>⟨rfl,rfl,rfl⟩) j (ex.fn.trans hj);rw[ex.vars]at w1 w2;refine⟨fun m=>⟨hfn,fun k'=>?_,fun k'=>?_,fun k'=>?_,fun k'=>?_,fun k'=>?_,fun _ b hb=>?_⟩,?_⟩
   ·rw[hnd]at k';omega
   ·rw[hnd]at k';omega
   ·rw[hnd]at k';omega
   ·rw[hnd]at k';omega
   ·rw[hnd]at k';omega
   ·rw[hnd,hl]at hb;exact w1 b hb m
   ·rw[tX (by rw[hnd];omega)];exact w2
theorem H8(body:Int):∀(ps:List bE) (c:Ck) (i:Int),(∀v∈c.vars,v.slot<i)->pc c.vars->(dU body c ps i).e=0->(dU body c ps i).vars=c.vars++mO ps i/\pc (dU body c ps i).vars/\c.e=0
 |[],c,i,hs,hv,he=>by unfold dU at he ⊢;exact⟨by simp[mO],hv,he⟩
 |p::ps,c,i,hs,hv,he=>by
  unfold dU at he ⊢;simp only at he ⊢;have fin:∀c1:Ck,c1.vars=c.vars->(dU body (kg c1 ⟨p.name,p.ty,i⟩) ps (i+1)).e=0->((c1.e=0)->∀v∈c.vars,v.name≠p.name)->(dU body (kg c1 ⟨p.name,p.ty,i⟩) ps (i+1)).vars=c.vars++mO (p::ps) i/\pc (dU body (kg c1 ⟨p.name,p.ty,i⟩) ps (i+1)).vars/\c1.e=0:=fun c1 e1 he1 hn=>by
   have hz:c1.e=0:=by
    have key:∀(ps:List bE) (c:Ck) (i:Int),(dU body c ps i).e=0->c.e=0:=fun ps=>by
     induction ps with
     |nil=>intro c i h;unfold dU at h;exact h
     |cons q ps ih=>
      intro c i h;unfold dU at h;simp only at h;have h:=ih _ _ h;have h:(if 0<=c.find q.name then c.aF 41 body else c).e=0:=h;split at h
      ·exact(mi jC h).elim
      ·exact h
    exact key ps (kg c1 ⟨p.name,p.ty,i⟩) _ he1
   have hv1:(kg c1 ⟨p.name,p.ty,i⟩).vars=c.vars++[⟨p.name,p.ty,i⟩]:=by show c1.vars++_=_;rw[e1]
   obtain⟨g1,g2,_⟩:=H8 body ps (kg c1 ⟨p.name,p.ty,i⟩) (i+1) (fun v hv=>by
    rw[hv1]at hv;rcases List.mem_append.1 hv with hv|hv
    ·have:=hs v hv;omega
    ·rw[List.mem_singleton.1 hv];show i<i+1;omega) (by rw[hv1];refine List.pairwise_append.2 ⟨hv,jE,fun v hv w hw=>?_⟩;rw[List.mem_singleton.1 hw];refine⟨hn hz v hv,?_⟩;have:=hs v hv;show v.slot≠i;omega) he1
   refine⟨?_,g2,hz⟩;rw[g1,hv1,List.append_assoc];rfl
  split at he
  ·exfalso;obtain⟨_,_,h3⟩:=fin (c.aF 41 body) (mC c jC body).vars he (fun h=>(mi jC h).elim);exact mi jC h3
  ·rename_i hf;rw[if_neg hf];exact fin c rfl he fun _=>GB hf
theorem JK(ht:aH t){c:Ck}(h:fv c)(hc:c.aa=t){k:Nat}(hk:k<t.ao.length)(hsz:c.aP.length<6)(hch:aG t.nodes lo (nth t.nodes (nth t.ao k).body.toNat).l (nth t.ao k).body.toNat)(he:(fA c k).e=0)(hp:p.aa=t)(hA:dF p (fA c k) lo ((nth t.ao k).body.toNat+1)):pS p k:=by
 have hk':k<c.aa.ao.length:=by rw[hc];exact hk
 have hp3:=h.aa.fn _ (dT hk');have hi0:bu { c with fn:=(k:Int),vars:=[],more:=[],size:=0 }:=⟨h.aa,h.types,h.slots,h.ao,by show c.aP.length<=6;omega,by show(0:Int)<=k;omega,by show(k:Int)<(c.aa.ao.length:Int);omega,by show((0:Nat):Int)<=0;omega,by show(0:Int)<=25;omega,fun _=>by show(0:Int)<=24;omega⟩;obtain⟨a,b,d⟩:=xy (nth c.aa.ao k).body (nth c.aa.ao k).params _ 0 hi0 (by show(0:Int)+_<=20;omega);obtain⟨a',b',d'⟩:=CD (nth c.aa.ao k).body (nth c.aa.ao k).params { c with fn:=(k:Int),vars:=[],more:=[],size:=0 } 0 ⟨by show(0:Int)<=0;omega,fun v hv=>by simp at hv⟩ rfl;obtain⟨a2,b2,d2⟩:=Co (t:=t) (nth c.aa.ao k).body (nth c.aa.ao k).params { c with fn:=(k:Int),vars:=[],more:=[],size:=0 } 0 (fun v hv=>by simp at hv) hp3.1.ps;have w:=H8 (nth c.aa.ao k).body (nth c.aa.ao k).params { c with fn:=(k:Int),vars:=[],more:=[],size:=0 } 0 (fun v hv=>by simp at hv) List.Pairwise.nil;have hbN:=oG ht hk;have hbk:=ht.body _ (dT hk);have hfn:(dU (nth c.aa.ao k).body { c with fn:=(k:Int),vars:=[],more:=[],size:=0 } (nth c.aa.ao k).params 0).fn=(k:Int):=by
  have key:∀(ps:List bE) (c:Ck) (i:Int),(dU (nth t.ao k).body c ps i).fn=c.fn:=fun ps=>by
   induction ps with
   |nil=>intro c i;rfl
   |cons q ps ih=>
    intro c i;unfold dU;simp only;rw[ih];show(if 0<=c.find q.name then c.aF 41 _ else c).fn=c.fn;split
    ·exact(mC c jC _).fn
    ·rfl
  rw[hc];exact key _ _ _
 unfold fA at he hA;simp only at he hA;rw[hc]at he hA;rw[hc]at a b d a' b' d' a2 b2 d2 w hfn;split at he
 ·rename_i e1;rw[if_pos e1]at hA;obtain⟨w1,w2,_⟩:=w e1;have w1:_=mO (nth t.ao k).params 0:=w1;refine⟨?_,fun m=>?_⟩
  ·rw[hp,<-w1];exact w2
  ·have:=Eh ht (GV ht t.nodes.length) a (b.trans (by rfl)) a2 a' hbN.1 hbN.2 (by have:=hbN.2;have:=hbN.1;omega) hbk hch he hp (hA.sub jl jl fun _ _ _=>⟨rfl,rfl,rfl⟩) hfn m;rw[w1]at this;rw[hp];exact this
 ·rename_i e1;exact(e1 he).elim
theorem DP{t:az}(ht:aH t):∀(n i lo:Nat) (c:Ck),fv c->c.aa=t->c.aP.length=i->i+n=t.ao.length->aG t.nodes lo ((t.ao.drop i).map (·.body)) t.nodes.length->(fE c i n).e=0->∀q,q<lo->nth (fE c i n).slots q=nth c.slots q/\nth (fE c i n).ao q=nth c.ao q
 |0,i,lo,c,h,hc,hs,hi,hch,he=>fun q hq=>⟨rfl,rfl⟩
 |n+1,i,lo,c,h,hc,hs,hi,hch,he=>by
  have h6:=ht.ao;unfold fE at he ⊢;by_cases e0:c.e=0
  ·rw[if_pos e0]at he ⊢;have hk:i<t.ao.length:=jB;rw[lj hk]at hch;obtain⟨c1,c2,c3,c4,c5,c6⟩:=iz (a:=(nth t.ao i).body) hch;obtain⟨f1,f2,f3⟩:=vS h (by rw[hc];exact hk) (by omega:c.aP.length<6);have e1:(fA c i).e=0:=by
    cases n with
    |zero=>unfold fE at he;exact he
    |succ m=>
     unfold fE at he;split at he
     ·assumption
     ·exact he
   have r:=(C4 ht h hc hk jB c5 e1).1;have r':=PY ht hc hk c5;intro q hq;have ih:=DP ht n (i+1) ((nth t.ao i).body.toNat+1) (fA c i) f1 (f2.trans hc) jB jB c6 he q jB;exact⟨ih.1.trans (r q (.inl hq)),ih.2.trans (r' q (.inl hq))⟩
  ·rw[if_neg e0]at he;exact(e0 he).elim
theorem GA{t:az}(ht:aH t):∀(n i lo:Nat) (c:Ck),fv c->c.aa=t->c.aP.length=i->i+n=t.ao.length->aG t.nodes lo ((t.ao.drop i).map (·.body)) t.nodes.length->(fE c i n).e=0->
  ∀p:ab,p.aa=t->dF p (fE c i n) lo t.nodes.length->∀j,i<=j->j<t.ao.length->pS p j
 |0,i,lo,c,h,hc,hs,hi,hch,he,p,hp,hA=>fun j h1 h2=>by omega
 |n+1,i,lo,c,h,hc,hs,hi,hch,he,p,hp,hA=>by
  have h6:=ht.ao;unfold fE at he hA;by_cases e0:c.e=0
  ·rw[if_pos e0]at he hA;have hk:i<t.ao.length:=jB;rw[lj hk]at hch;obtain⟨c1,c2,c3,c4,c5,c6⟩:=iz (a:=(nth t.ao i).body) hch;obtain⟨f1,f2,f3⟩:=vS h (by rw[hc];exact hk) (by omega:c.aP.length<6);have e1:(fA c i).e=0:=by
    cases n with
    |zero=>unfold fE at he;exact he
    |succ m=>
     unfold fE at he;split at he
     ·assumption
     ·exact he
   obtain⟨r2,q1,q2,q3⟩:=wy ht n (i+1) ((nth t.ao i).body.toNat+1) (fA c i) f1 (f2.trans hc) jB jB c6 he;have r3:=DP ht n (i+1) ((nth t.ao i).body.toNat+1) (fA c i) f1 (f2.trans hc) jB jB c6 he;intro j h1 h2;by_cases hj:j=i
   ·subst hj;exact JK ht h hc hk jB c5 e1 hp (hA.sub jl jB fun q g1 g2=>⟨r2.tw q (.inl jB),(r3 q jB).1,(r3 q jB).2⟩)
   ·exact GA ht n (i+1) ((nth t.ao i).body.toNat+1) (fA c i) f1 (f2.trans hc) jB jB c6 he p hp (hA.sub jB jl fun _ _ _=>⟨rfl,rfl,rfl⟩) j jB h2
  ·rw[if_neg e0]at he;exact(e0 he).elim
theorem JQ(ht:aH t)(he:(gP t).2.2=0):∀j,j<(gP t).1.aa.ao.length->pS (gP t).1 j:=by
 unfold gP at he ⊢;split at he
 ·rename_i h;exact(h he).elim
 rename_i h;rw[if_neg h];have h:(iv t).e=0:=jB;obtain⟨i1,i2,i3⟩:=BP ht;obtain⟨_,q1,_⟩:=wy ht t.ao.length 0 0 (iY (jq t)) i1 i2 (by rw[i3];rfl) jB (by rw[List.drop_zero];exact ht.chain) h;have he:(iv t).aa=t:=q1;intro j hj;have hj:j<t.ao.length:=by rw[<-he];exact hj
 exact GA ht t.ao.length 0 0 (iY (jq t)) i1 i2 (by rw[i3];rfl) jB (by rw[List.drop_zero];exact ht.chain) h (iv t).prog he (fun _ _ _=>⟨rfl,rfl,rfl⟩) j (Nat.zero_le _) hj
theorem Qs{s:ByteArray}(he:(gf s).2.2=0):∀j,j<(gf s).1.aa.ao.length->pS (gf s).1 j:=by
 unfold gf at he ⊢;split at he
 ·rename_i h;exact(h he).elim
 rename_i h;rw[if_neg h];have h:(gH s).2.2=0:=jB;simp only at he ⊢;split at he
 ·cases he
 rename_i h2;split at he
 ·rename_i h3;exact(h3 he).elim
 rename_i h3;rw[if_neg h2,if_neg h3];exact JQ (xv h) jB
end Go.Proofs.YtfkgcobaheegbaaGreatDoor
namespace Go.Gd
open Go
def oW(p:ab):List bC->List bf->List bC
 |vars,[]=>vars
 |vars,x::l=>oW p (nh p ((dD p x.block).take x.at_.toNat) vars) l
theorem sR(p:ab):∀(l m:List bf) (vars:List bC),oW p vars (l++m)=oW p (oW p vars l) m
 |[],_,_=>rfl
 |x::l,m,vars=>sR p l m _
def pE(p:ab)(x:bf)(b:Int):Prop:=∃i:Nat,((i:Int)=x.at_\/(i:Int)+1=x.at_)/\i<(dD p x.block).length/\((ai p (nth (dD p x.block) i)).kind=15\/(ai p (nth (dD p x.block) i)).kind=16)/\b∈(ai p (nth (dD p x.block) i)).l.drop 1
def qh(p:ab):(Int->Prop)->List bf->Prop
 |_,[]=>True
 |q,x::l=>q x.block/\qh p (pE p x) l
def B2(p:ab):(Int->Prop)->List bf->Int->Prop
 |q,[]=>q
 |_,x::l=>B2 p (pE p x) l
theorem tR(p:ab):∀(l m:List bf) (q:Int->Prop),qh p q (l++m)<->qh p q l/\qh p (B2 p q l) m
 |[],m,q=>⟨fun h=>⟨trivial,h⟩,fun h=>h.2⟩
 |x::l,m,q=>by show(_/\qh p (pE p x) (l++m))<->(_/\_)/\_;rw[tR p l m (pE p x)];exact⟨fun⟨a,b,c⟩=>⟨⟨a,b⟩,c⟩,fun⟨⟨a,b⟩,c⟩=>⟨a,b,c⟩⟩
theorem Fg(p:ab):∀(l:List bf) (x:bf) (q:Int->Prop),B2 p q (l++[x])=pE p x
 |[],_,_=>rfl
 |y::l,x,q=>Fg p l x (pE p y)
variable{p:ab}{vars:List bC}
theorem CT{a:Int}(h:(ai p a).kind≠10):ou p a vars=vars:=if_neg h
theorem vR{α:Type}[Inhabited α](l:List α)(i:Nat)(h:i<l.length):l.take (i+1)=l.take i++[nth l i]:=by rw[List.take_succ,List.getElem?_eq_getElem h,dN h];rfl
theorem N5{x:bf}{i:Nat}(h:(i:Int)=x.at_\/(i:Int)+1=x.at_)(hi:i<(dD p x.block).length)(hk:(ai p (nth (dD p x.block) i)).kind=15\/(ai p (nth (dD p x.block) i)).kind=16)(vars:List bC):nh p ((dD p x.block).take x.at_.toNat) vars=nh p ((dD p x.block).take i) vars:=by
 rcases h with h|h
 ·rw[<-h,Int.toNat_natCast]
 ·rw[<-h,show((i:Int)+1).toNat=i+1 from jB,vR _ _ hi,Bn];exact CT jB
theorem BB{s:List bC->Int->Prop}{p:ab}:∀(L:List Int) (vars:List bC),uK s p vars L->∀i,i<L.length->s (nh p (L.take i) vars) (nth L i)
 |[],_,_,i,hi=>by simp at hi
 |x::L,vars,h,0,_=>h.1
 |x::L,vars,h,i+1,hi=>BB L _ h.2 i (by simpa using hi)
theorem Ih{j:Nat}{x:bf}{b:Int}(h:∀m,nZ p j m vars x.block)(k:pE p x b):∀m,nZ p j m (nh p ((dD p x.block).take x.at_.toNat) vars) b:=fun m=>by obtain⟨i,h1,h2,h3,h4⟩:=k;have:=BB _ _ (h (m+1)) i h2;rw[N5 h1 h2 h3];exact this.kids h3 b h4
theorem G0{p:ab}{j:Nat}:∀(l:List bf) (q:Int->Prop) (vars:List bC) (x:bf),qh p q (l++[x])->(∀b,q b->∀m,nZ p j m vars b)->∀m,nZ p j m (oW p vars l) x.block
 |[],q,vars,x,h,hq=>hq _ h.1
 |y::l,q,vars,x,h,hq=>G0 l (pE p y) _ x h.2 fun b hb=>Ih (hq _ h.1) hb
theorem J3{x:Int}(hv:pc vars)(h:(ai p x).kind=10->∀v∈vars,v.name≠(ai p x).name/\v.slot≠nth p.slots x.toNat):pc (ou p x vars):=by
 unfold ou;split
 ·rename_i k;refine List.pairwise_append.2 ⟨hv,jE,fun v hv w hw=>?_⟩;rw[List.mem_singleton.1 hw];exact h k v hv
 ·exact hv
theorem Dy{p:ab}{j m:Nat}:∀(L:List Int) (vars:List bC),uK (xk p j (nZ p j m)) p vars L->pc vars->∀i,pc (nh p (L.take i) vars)
 |[],vars,_,hv,i=>by rw[List.take_nil];exact hv
 |x::L,vars,h,hv,0=>hv
 |x::L,vars,h,hv,i+1=>Dy L _ h.2 (J3 hv h.1.pd) i
theorem GO{p:ab}{j:Nat}:∀(l:List bf) (q:Int->Prop) (vars:List bC),qh p q l->(∀b,q b->∀m,nZ p j m vars b)->pc vars->pc (oW p vars l)
 |[],q,vars,_,_,hv=>hv
 |x::l,q,vars,h,hq,hv=>GO l (pE p x) _ h.2 (fun b hb=>Ih (hq _ h.1) hb) (Dy (m:=0) _ _ (hq _ h.1 1) hv _)
theorem KU{x:Int}{v:bC}(h:v∈vars):v∈ou p x vars:=by
 unfold ou;split
 ·exact List.mem_append_left _ h
 ·exact h
theorem Ik{p:ab}{v:bC}:∀(L:List Int) (vars:List bC),v∈vars->v∈nh p L vars
 |[],_,h=>h
 |x::L,vars,h=>Ik L _ (KU h)
-- where a node is found
def ci(p:ab)(f:aI):Int:=nth (dD p f.pl.block) f.pl.at_.toNat
def kI(p:ab)(f:aI):List bC:=oW p (mO (nth p.aa.ao f.fn.toNat).params 0) f.path
structure n6(N:Int)(t:Int)(w:ak):Prop where
 ty:w.ty=t
 xX:j9 w=true
 o9:w.ty=4->w.n<=N
theorem M3{w:ak}(h:j9 w=true):1<=w.ty/\w.ty<=4:=by
 unfold j9 at h;split at h
 ·omega
 split at h
 ·omega
 split at h
 ·omega
 split at h
 ·omega
 ·cases h
theorem xa{t:Int}(h:1<=t/\t<=4):j9 (vZ t)=true:=by have:t=1\/t=2\/t=3\/t=4:=jB;rcases this with rfl|rfl|rfl|rfl<;>decide
theorem kP{f:aI}(h:f.path≠[]):f.path=f.path.take (f.path.length-1)++[f.pl]:=by have hl:=List.length_pos_iff.2 h;have:=vR f.path (f.path.length-1) jB;rw[show f.path.length-1+1=f.path.length from jB,List.take_length]at this;exact this
theorem oq{f:aI}(h:f.path≠[]):(fK f).path=f.path.take (f.path.length-1)++[⟨f.pl.block,f.pl.at_+1⟩]:=by
 have hl:=List.length_pos_iff.2 h;show f.path.set (f.path.length-1) _=_;have:∀(l:List bf) (x:bf),0<l.length->l.set (l.length-1) x=l.take (l.length-1)++[x]:=fun l x hl=>by
  apply List.ext_getElem
  ·simp;omega
  ·intro i h1 h2;rw[List.getElem_set,List.getElem_append];simp at h1;split
   ·rename_i e;rw[dif_neg jF];simp
   ·rename_i e;rw[dif_pos jF];simp
 exact this _ _ hl
def Ar(p:ab)(f:aI)(g:Int):Prop:=((ai p (ci p f)).kind=10\/(ai p (ci p f)).kind=11\/(ai p (ci p f)).kind=13)/\(ai p (nth (ai p (ci p f)).l 0)).kind=21/\uS p (nth (ai p (ci p f)).l 0)=g
end Go.Gd
namespace Go.Proofs.YtfkgcobaheegbaaGreatDoor
open Go Go.Gd
structure iT(p:ab)(N:Int)(f:aI):Prop where
 mN:qh p (fun b=>b=(nth p.aa.ao f.fn.toNat).body) f.path
 vo:∀v∈kI p f,0<=v.slot/\v.slot<f.slots.length/\(nth f.slots v.slot.toNat).ty=v.ty/\j9 (nth f.slots v.slot.toNat)=true
 o9:∀w∈f.slots,w.ty=4->w.n<=N
structure iW(p:ab):Prop where
 ok:dx p
 fn:∀j,j<p.aa.ao.length->pS p j
theorem HL{s:ByteArray}(he:(gf s).2.2=0):iW (gf s).1:=⟨BO he,Qs he⟩
variable{p:ab}{f:aI}{N:Int}
theorem u9(hw:iW p)(h:dr p f)(t:iT p N f)(hb:mI p f):(∀m,xk p f.fn.toNat (nZ p f.fn.toNat m) (kI p f) (ci p f))/\pc (kI p f):=by
 have f0:=h.f0;have f1:=h.f1;have hF:=hw.fn f.fn.toNat jB;have hx:=h.pl _ (mD hb.1);have ha0:=hx.a0;have hb2:=hb.2;refine⟨fun m=>?_,GO _ _ _ t.mN (fun b e m=>by subst e;exact hF.body m) hF.env⟩;have hn:=t.mN;rw[kP hb.1]at hn;have:=G0 _ _ _ _ hn (fun b e m=>by subst e;exact hF.body m) (m+1);have:=BB _ _ this f.pl.at_.toNat (by show _<(dD p f.pl.block).length;omega);have e:kI p f=nh p ((dD p f.pl.block).take f.pl.at_.toNat) (oW p (mO (nth p.aa.ao f.fn.toNat).params 0) (f.path.take (f.path.length-1))):=by unfold kI;rw[kP hb.1,sR,<-kP hb.1];rfl
 rw[e];exact this
theorem iT.on(h:dr p f)(t:iT p N f)(hb:mI p f)(hk:(ai p (ci p f)).kind≠10):iT p N (fK f):=by
 have ha0:=(h.pl _ (mD hb.1)).a0;have hb2:=hb.2;have e:kI p (fK f)=kI p f:=by
  have e1:kI p f=nh p ((dD p f.pl.block).take f.pl.at_.toNat) (oW p (mO (nth p.aa.ao f.fn.toNat).params 0) (f.path.take (f.path.length-1))):=by unfold kI;rw[kP hb.1,sR,<-kP hb.1];rfl
  rw[e1];unfold kI;rw[oq hb.1,sR];show nh p ((dD p f.pl.block).take (f.pl.at_+1).toNat) _=_;rw[show(f.pl.at_+1).toNat=f.pl.at_.toNat+1 from jB,vR _ _ jB,Bn];exact CT hk
 refine⟨?_,by rw[e];exact t.vo,t.o9⟩;have hn:=t.mN;rw[kP hb.1,tR]at hn;rw[oq hb.1,tR];exact⟨hn.1,hn.2.1,trivial⟩
theorem JP{α:Type}{l:List α}{i:Nat}{x y:α}(h:x∈l.set i y):x=y\/x∈l:=by
 rcases List.mem_or_eq_of_mem_set h with h|h
 ·exact .inr h
 ·exact .inl h
theorem iT.store(hw:iW p)(h:dr p f)(t:iT p N f)(hb:mI p f)(hx:kJ p (ci p f)){w:ak}(hv:n6 N (nth p.types (nth (ai p (ci p f)).l 0).toNat) w):iT p N (fK { f with slots:=f.slots.set (nth p.slots (ci p f).toNat).toNat w }):=by
 have ha0:=(h.pl _ (mD hb.1)).a0;have hb2:=hb.2;have f0:=h.f0;have f1:=h.f1;obtain⟨sw,hE⟩:=u9 hw h t hb;have sw:=sw 0;have hX:=h.pl _ (mD hb.1);have hm:ci p f∈dD p f.pl.block:=dT jB;obtain⟨k0,k1,k2,k3⟩:=hX.ay hw.ok f0 f1 hm;have hsl:=(hw.ok.ao f.fn.toNat jB).all (ci p f).toNat k2 (by have:=hX.hi;omega) (by unfold kJ at hx;unfold iA;omega);have hfs:=h.sl;generalize hs:nth p.slots (ci p f).toNat=s at*;have hnth:∀i:Int,0<=i->nth (f.slots.set s.toNat w) i.toNat=if i=s then w else nth f.slots i.toNat:=fun i hi=>by
  rw[Go.Gd.bh _ _ _ _ jB];by_cases e:i=s
  ·rw[if_pos e,jP]
  ·rw[if_neg e,jN]
 have e1:kI p f=nh p ((dD p f.pl.block).take f.pl.at_.toNat) (oW p (mO (nth p.aa.ao f.fn.toNat).params 0) (f.path.take (f.path.length-1))):=by unfold kI;rw[kP hb.1,sR,<-kP hb.1];rfl
 have e:kI p (fK { f with slots:=f.slots.set s.toNat w })=ou p (ci p f) (kI p f):=by rw[e1];unfold kI;rw[oq (f:={ f with slots:=f.slots.set s.toNat w }) hb.1,sR];show nh p ((dD p f.pl.block).take (f.pl.at_+1).toNat) _=_;rw[show(f.pl.at_+1).toNat=f.pl.at_.toNat+1 from jB,vR _ _ jB,Bn];rfl
 refine⟨?_,fun v hv'=>?_,fun u hu=>?_⟩
 ·have hn:=t.mN;rw[kP hb.1,tR]at hn;rw[oq (f:={ f with slots:=f.slots.set s.toNat w }) hb.1,tR];exact⟨hn.1,hn.2.1,trivial⟩
 ·rw[e]at hv';show 0<=v.slot/\v.slot<(f.slots.set s.toNat w).length/\(nth (f.slots.set s.toNat w) v.slot.toNat).ty=v.ty/\j9 (nth (f.slots.set s.toNat w) v.slot.toNat)=true;rw[List.length_set];have old:∀v∈kI p f,v.slot≠s->0<=v.slot/\v.slot<f.slots.length/\(nth (f.slots.set s.toNat w) v.slot.toNat).ty=v.ty/\j9 (nth (f.slots.set s.toNat w) v.slot.toNat)=true:=fun v hv hne=>by
   obtain⟨g1,g2,g3,g4⟩:=t.vo v hv;rw[hnth _ g1,if_neg hne];exact⟨g1,g2,g3,g4⟩
  rcases hx with hx|hx
  ·unfold ou at hv';rw[if_pos (show(ai p (ci p f)).kind=10 from hx)]at hv';rcases List.mem_append.1 hv' with hv'|hv'
   ·exact old v hv' (by have:=(sw.pd hx v hv').2;rwa [hs]at this)
   ·rw[List.mem_singleton.1 hv'];show 0<=nth p.slots (ci p f).toNat/\nth p.slots (ci p f).toNat<_/\(nth (f.slots.set s.toNat w) (nth p.slots (ci p f).toNat).toNat).ty=nth p.types (nth (ai p (ci p f)).l 0).toNat/\j9 (nth (f.slots.set s.toNat w) (nth p.slots (ci p f).toNat).toNat)=true;rw[hs,hnth _ hsl.1,if_pos rfl];exact⟨hsl.1,jB,hv.ty,hv.xX⟩
  ·rw[CT (by have hx:(ai p (ci p f)).kind=11:=hx;omega)]at hv';by_cases hne:v.slot=s
   ·obtain⟨u,u1,u2,u3,u4⟩:=sw.set hx;have huv:u=v:=by
     obtain⟨i,hi,rfl⟩:=List.getElem_of_mem u1;obtain⟨k,hk,rfl⟩:=List.getElem_of_mem hv';rw[hs]at u3;rcases Nat.lt_trichotomy i k with hik|hik|hik
     ·exact((List.pairwise_iff_getElem.1 hE i k hi hk hik).2 (by rw[u3,hne])).elim
     ·subst hik;rfl
     ·exact((List.pairwise_iff_getElem.1 hE k i hk hi hik).2 (by rw[u3,hne])).elim
    subst huv;rw[hne,hnth _ hsl.1,if_pos rfl];exact⟨hsl.1,jB,hv.ty.trans u4.symm,hv.xX⟩
   ·exact old v hv' hne
 ·have hu:u∈f.slots.set s.toNat w:=hu;rcases JP hu with rfl|hu
  ·exact hv.o9
  ·exact t.o9 u hu
theorem iT.bs(t:iT p N f)(hne:f.path≠[]){b:Int}(hk:pE p f.pl b):iT p N { f with path:=f.path++[⟨b,0⟩] }:=by
 have e:kI p { f with path:=f.path++[⟨b,0⟩] }=kI p f:=by unfold kI;show oW p _ (f.path++[⟨b,0⟩])=_;rw[sR];rfl
 refine⟨?_,by rw[e];exact t.vo,t.o9⟩;show qh p _ (f.path++[⟨b,0⟩]);rw[tR];refine⟨t.mN,?_,trivial⟩;rw[kP hne,Fg];exact hk
theorem iT.cut(t:iT p N f)(hne:f.path≠[]):iT p N { f with path:=f.path.take (f.path.length-1) }:=by have hn:=t.mN;rw[kP hne,tR]at hn;refine⟨hn.1,fun v hv=>t.vo v ?_,t.o9⟩;unfold kI;rw[kP hne,sR];exact Ik _ _ hv
theorem iT.mono{M:Int}(t:iT p N f)(h:N<=M):iT p M f:=⟨t.mN,t.vo,fun w hw e=>by have:=t.o9 w hw e;omega⟩
structure ee(p:ab)(R:RS):Prop where
 fr:∀k,k<R.nf->iT p R.heap.length (nth R.aK k)
 link:∀k,k+1<R.nf->Ar p (nth R.aK k) (nth R.aK (k+1)).fn
theorem ee.aQ{p:ab}{R:RS}(t:ee p R)(hok:R.nf<=R.aK.length)(h1:1<=R.nf){f:aI}(hf:iT p R.heap.length f)(hfn:f.fn=R.ah.fn):ee p (R.aQ (R.nf-1) f):=by
 have hu:=fun k=>RS.bh (R:=R) (k:=R.nf-1) jB f k
 refine⟨fun k hk=>?_,fun k hk=>?_⟩
 ·rw[hu];split
  ·exact hf
  ·exact t.fr k hk
 ·have hk:k+1<R.nf:=hk;rw[hu,jN,hu];split
  ·rename_i e;have:=t.link k hk;rw[hfn,RS.ah,<-e];exact this
  ·exact t.link k hk
theorem ee.cut{p:ab}{R:RS}(t:ee p R)(hok:R.nf<=R.aK.length)(h1:1<=R.nf)(hp:R.ah.path.length≠0):ee p R.cut:=by have:=t.aQ hok h1 (f:={ R.ah with path:=R.ah.path.take (R.ah.path.length-1) }) ((t.fr (R.nf-1) jB).cut fun e=>hp (by unfold RS.ah;rw[e];rfl)) rfl;exact⟨this.fr,this.link⟩
variable{a:Int}
theorem zB{R:RS}{v:ak}(h:R.nf-1<R.aK.length):(R.fS p a v).on=R.aQ (R.nf-1) (fK { R.ah with slots:=R.ah.slots.set (nth p.slots a.toNat).toNat v }):=by have hn:nth (R.fS p a v).aK (R.nf-1)=_:=(RS.bh (R:=R) h _ (R.nf-1)).trans (if_pos rfl);show RS.aQ _ (R.nf-1) (fK (nth (R.fS p a v).aK (R.nf-1)))=_;rw[hn];unfold RS.fS RS.aQ;simp only[RS.ah,List.set_set]
theorem ee.bL{p:ab}(hw:iW p){R:RS}(hI:cO p R)(t:ee p R)(h1:1<=R.nf){v:ak}(hv:(nth p.aa.ao R.ah.fn.toNat).ret≠0->n6 R.heap.length (nth p.aa.ao R.ah.fn.toNat).ret v):ee p (R.bL p v):=by
 have hnf:=hI.ok.nf;unfold RS.bL;split
 ·exact⟨fun k hk=>t.fr k (by have hk:k<R.nf-1:=hk;omega),fun k hk=>t.link k (by have hk:k+1<R.nf-1:=hk;omega)⟩
 rename_i h2;have hP:ee p R.pop:=⟨fun k hk=>t.fr k (by have hk:k<R.nf-1:=hk;omega),fun k hk=>t.link k (by have hk:k+1<R.nf-1:=hk;omega)⟩;have hb:=hI.busy (R.nf-1-1) jB;have hf:=hI.fr (R.nf-1-1) jB;have ht:=t.fr (R.nf-1-1) jB;have hl:=t.link (R.nf-1-1) jB;rw[show R.nf-1-1+1=R.nf-1 from jB]at hl;have hl:Ar p (nth R.aK (R.nf-1-1)) R.ah.fn:=hl;have hat:cu p R.pop.st=ci p (nth R.aK (R.nf-1-1)):=by
  unfold cu ci;have:R.pop.st.af=nth R.aK (R.nf-1-1):=by unfold aJ.af;show nth (R.aK.take (R.nf-1)) ((R.aK.take (R.nf-1)).length-1)=_;rw[show(R.aK.take (R.nf-1)).length=R.nf-1 by simp;omega,cd _ _ _ jB]
  rw[this]
 have hpn:R.pop.nf=R.nf-1:=rfl;have hpf:R.pop.aK=R.aK:=rfl;split
 ·rename_i hls;rw[hat]at hls;obtain⟨c1,c2,c3⟩:=hl;have hcw:=((u9 hw hf ht hb).1 0).call (by have:=hls;unfold kJ at this;have e:(ai p (ci p (nth R.aK (R.nf-1-1)))).kind=(nth p.aa.nodes (ci p (nth R.aK (R.nf-1-1))).toNat).kind:=rfl;omega) c2;have hr:=hcw.ret;rw[c3]at hr;have hty:1<=nth p.types (nth (ai p (ci p (nth R.aK (R.nf-1-1)))).l 0).toNat:=by
   rcases hls with e|e
   ·have hm:ci p (nth R.aK (R.nf-1-1))∈dD p (nth R.aK (R.nf-1-1)).pl.block:=dT (by have:=hb.2;have:=(hf.pl _ (mD hb.1)).a0;omega);have hX:=hf.pl _ (mD hb.1);obtain⟨k0,k1,k2,k3⟩:=hX.ay hw.ok hf.f0 hf.f1 hm;have hi:=hX.in_ hw.ok hf.f0 hf.f1;exact((hw.ok.ok.ty (ci p (nth R.aK (R.nf-1-1))).toNat (Nat.zero_le _) jB).pd e).1
   ·obtain⟨u,u1,u2,u3,u4⟩:=((u9 hw hf ht hb).1 0).set e;obtain⟨_,_,g3,g4⟩:=ht.vo u u1;have:=M3 g4;rw[<-u4,<-g3];exact this.1
  have hv':=hv jB;rw[<-hr]at hv';have hst:=iT.store hw hf ht hb hls hv';rw[zB (R:=R.pop) (by rw[hpn,hpf];omega),hat];exact hP.aQ (by rw[hpn,hpf];omega) jB hst rfl
 ·rename_i hls;rw[hat]at hls;exact hP.aQ (by rw[hpn,hpf];omega) jB (iT.on hf ht hb fun e=>hls (.inl e)) rfl
theorem ee.settle{p:ab}(hw:iW p):∀(n:Nat) {R:RS},cO p R->ee p R->ee p (jL p n R)
 |0,R,_,t=>t
 |n+1,R,hI,t=>by
  unfold jL;split
  ·exact t
  rename_i e;have hg:=hI.go e;split
  ·refine ee.settle hw n (hI.bL hg _).1 (t.bL hw hI hg fun hz=>?_);have hf:dr p R.ah:=hI.fr (R.nf-1) jB;have:=(hw.ok.ok.aa.fn _ (dT (l:=p.aa.ao) (k:=R.ah.fn.toNat) (by have:=hf.f0;have:=hf.f1;omega))).1.ret;exact⟨rfl,xa jB,fun _=>by show(0:Int)<=_;omega⟩
  rename_i e1;split
  ·exact t
  ·exact ee.settle hw n (hI.cut hg e1).1 (t.cut hI.ok.nf hg e1)
theorem I6(s:ByteArray)(a b:Int):gY s a b≠4:=by
 unfold gY
 (repeat' split)<;>omega
theorem Ja(h:si p){slots:List ak}{heap:List (List Int)}(hN:0<=N)(hl:∀w∈slots,w.ty=4->w.n<=N){n:Nat}(h0:0<=a)(h1:a<p.aa.nodes.length)(hn:a.toNat<n)(hk:bQ (bt p.aa.nodes a)):(eN p slots heap n a).1.ty=4->(eN p slots heap n a).1.n<=N:=by
 intro e;have ht:=tJ h slots heap n a h0 h1 hn hk;rcases ht with⟨_,t1,_⟩|⟨_,t1⟩
 rotate_left
 ·rw[t1]at e;exact absurd e jC
 rw[e]at t1;have ty:=h.ty a.toNat (Nat.zero_le _) jB;have hk':bQ (nth p.aa.nodes a.toNat).kind:=hk;unfold bQ at hk';have k4:(nth p.aa.nodes a.toNat).kind=4:=by
  have hc:(nth p.aa.nodes a.toNat).kind=1\/(nth p.aa.nodes a.toNat).kind=2\/(nth p.aa.nodes a.toNat).kind=3\/(nth p.aa.nodes a.toNat).kind=4\/(nth p.aa.nodes a.toNat).kind=5\/(nth p.aa.nodes a.toNat).kind=6\/(nth p.aa.nodes a.toNat).kind=7\/(nth p.aa.nodes a.toNat).kind=8\/(nth p.aa.nodes a.toNat).kind=9:=jB;rcases hc with k|k|k|k|k|k|k|k|k
  ·have:=ty.int k;omega
  ·have:=ty.bool k;omega
  ·have:=ty.text k;omega
  ·exact k
  ·have:=(ty.index k).1;omega
  ·have:=(ty.len k).1;omega
  ·have:=(ty.neg k).1;omega
  ·have:=(ty.not k).1;omega
  ·have:=(ty.zx k).1;rw[<-t1]at this;exact(I6 _ _ _ this.symm).elim
 obtain⟨m,rfl⟩:∃m,n=m+1:=⟨n-1,jB⟩;have ev:eN p slots heap (m+1) a=(dp slots (nth p.slots a.toNat) (nth p.types a.toNat),0):=by
  conv=>lhs;unfold eN
  simp only;rw[jN,jN,jN,if_pos k4]
 rw[ev]at e ⊢;have e:(dp slots (nth p.slots a.toNat) (nth p.types a.toNat)).ty=4:=e;show(dp slots (nth p.slots a.toNat) (nth p.types a.toNat)).n<=N;unfold dp at e ⊢;split
 ·exact hN
 rename_i e1;rw[if_neg e1]at e;split
 ·rename_i e2;rw[if_pos e2]at e;exact hl _ (dT jB) e
 ·exact hN
theorem Ch(hs:dx p){R:RS}(hl:∀w∈R.ah.slots,w.ty=4->w.n<=R.heap.length)(h0:0<=a)(h1:a.toNat<p.aa.nodes.length)(hk:bQ (bt p.aa.nodes a))(h2:(R.val p a).2=0):n6 R.heap.length (nth p.types a.toNat) (R.val p a).1:=by obtain⟨t1,t2⟩:=qq (Ff hs R h0 h1 hk) h2;exact⟨t1,t2,Ja hs.ok jB hl h0 jB jB hk⟩
theorem Cx{p:ab}(R:RS):∀(l:List Int) (a:List ak),(R.args p l a).2=0->(R.args p l a).1=a++l.map (fun x=>(R.val p x).1)/\∀x∈l,(R.val p x).2=0
 |[],a,_=>⟨by simp[RS.args],fun x hx=>by cases hx⟩
 |x::l,a,h=>by
  unfold RS.args at h ⊢;split
  ·rename_i e;rw[if_pos e]at h;exact(e h).elim
  ·rename_i e;rw[if_neg e]at h;obtain⟨h1,h2⟩:=Cx R l _ h;refine⟨by rw[h1];simp,fun y hy=>?_⟩;rcases List.mem_cons.1 hy with rfl|hy
   ·exact Classical.not_not.1 e
   ·exact h2 y hy
theorem DB:∀(l:List bE) (i:Int) (v:bC),v∈mO l i->∃k:Nat,k<l.length/\v.slot=i+k/\v.ty=(nth l k).ty
 |[],_,v,h=>by cases h
 |x::l,i,v,h=>by
  unfold mO at h;rcases List.mem_cons.1 h with rfl|h
  ·exact⟨0,jE,by show i=i+((0:Nat):Int);omega,rfl⟩
  ·obtain⟨k,h1,h2,h3⟩:=DB l (i+1) v h;exact⟨k+1,by simpa using h1,by rw[h2];push_cast;omega,h3⟩
theorem sI{α β:Type}[Inhabited α][Inhabited β](f:α->β)(l:List α)(k:Nat)(h:k<l.length):nth (l.map f) k=f (nth l k):=by rw[dN (by simpa using h),dN h];simp
theorem Fj(hs:dx p){k:Nat}(hk:k<p.aa.ao.length){args:List ak}(hN:0<=N)(ha:args.length=(nth p.aa.ao k).params.length)(ht:∀i,i<args.length->n6 N (nth (nth p.aa.ao k).params i).ty (nth args i)):iT p N (jc p k args):=by
 have hp:=(hs.ao k hk).wk;have hz:((jc p k args).slots.length:Int)=nth p.size k:=by show((args++List.replicate _ v0).length:Int)=_;rw[Int.toNat_natCast];simp;omega
 have e:kI p (jc p k args)=mO (nth p.aa.ao k).params 0:=by show oW p (mO (nth p.aa.ao (k:Int).toNat).params 0) [⟨(nth p.aa.ao (k:Int).toNat).body,0⟩]=_;rw[Int.toNat_natCast];rfl
 refine⟨?_,fun v hv=>?_,fun w hw e=>?_⟩
 ·show qh p (fun b=>b=(nth p.aa.ao (k:Int).toNat).body) [⟨(nth p.aa.ao (k:Int).toNat).body,0⟩];exact⟨rfl,trivial⟩
 ·rw[e]at hv;obtain⟨i,h1,h2,h3⟩:=DB _ _ _ hv;have hslot:v.slot=i:=jB;have hn:nth (jc p k args).slots i=nth args i:=by
   show nth (args++List.replicate _ v0) i=_;rw[my jB]
  rw[hslot,Int.toNat_natCast,hn,h3];have:=ht i jB;exact⟨jB,jB,this.ty,this.xX⟩
 ·have hw:w∈args++List.replicate _ v0:=hw;rcases List.mem_append.1 hw with hw|hw
  ·obtain⟨i,hi,rfl⟩:=List.getElem_of_mem hw;rw[<-dN hi]at e ⊢;exact(ht i hi).o9 e
  ·rw[(List.mem_replicate.1 hw).2]at e;exact absurd e jC
theorem ee.push{p:ab}{R:RS}(t:ee p R)(hfull:R.nf=R.aK.length)(h1:1<=R.nf){f:aI}(hf:iT p R.heap.length f)(hc:Ar p R.ah f.fn):ee p (R.push f):=by
 have hu:∀k,k<=R.nf->nth (R.push f).aK k=if k=R.nf then f else nth R.aK k:=fun k hk=>by show nth (R.aK++[f]) k=_;rw[xJ _ _ _ jB,hfull]
 refine⟨fun k hk=>?_,fun k hk=>?_⟩
 ·have hk:k<R.nf+1:=hk;rw[hu k jB];split
  ·exact hf
  ·exact t.fr k jB
 ·have hk:k+1<R.nf+1:=hk;rw[hu k jB,jN,hu (k+1) jB];split
  ·rename_i e;unfold RS.ah at hc;rwa [show R.nf-1=k from jB]at hc
  ·exact t.link k jB
theorem bF.lV{R:RS}(h:bF p R):cu p R.st=ci p R.ah:=by unfold cu ci;rw[h.qX]
theorem bF.fr{p:ab}{R:RS}(h:bF p R):dr p R.ah:=h.inv.fr (R.nf-1) (by have:=h.one;omega)
theorem ee.store{p:ab}(hw:iW p){R:RS}(h:bF p R)(t:ee p R)(hls:kJ p (cu p R.st)){v:ak}(hv:n6 R.heap.length (nth p.types (nth (ai p (cu p R.st)).l 0).toNat) v):ee p (R.store p (cu p R.st) v):=by have h1:=h.one;have hnf:=h.inv.ok.nf;unfold RS.store;rw[zB jB];rw[h.lV]at hls hv ⊢;exact t.aQ hnf h1 (iT.store hw h.fr (t.fr (R.nf-1) jB) h.af hls hv) rfl
theorem ee.on{p:ab}{R:RS}(h:bF p R)(t:ee p R)(hk:(ai p (cu p R.st)).kind≠10):ee p R.on:=by have h1:=h.one;rw[h.lV]at hk;exact t.aQ h.inv.ok.nf h1 (iT.on h.fr (t.fr (R.nf-1) jB) h.af hk) rfl
theorem ee.call{p:ab}(hw:iW p){R:RS}(h:bF p R)(t:ee p R){x:Int}(hx:x=nth (ai p (cu p R.st)).l 0)(hst:(ai p (cu p R.st)).kind=10\/(ai p (cu p R.st)).kind=11\/(ai p (cu p R.st)).kind=13)(h0:0<=x)(hl:x.toNat<p.aa.nodes.length)(hk:(ai p x).kind=21)(he:(R.call p x).2=0):ee p (R.call p x).1:=by
 have h1:=h.one;obtain⟨k,hc⟩:=callee hw.ok hl hk;have hcw:=((u9 hw h.fr (t.fr (R.nf-1) jB) h.af).1 0).call;have hat:=h.lV;have hcw:=hcw (by rw[<-hat];exact hst) (by rw[<-hat,<-hx];exact hk);rw[<-hat,<-hx]at hcw;unfold RS.call at he ⊢;simp only at he ⊢;split at he
 ·rename_i e;exact(e he).elim
 rename_i e;rw[if_neg e];split at he
 ·exact((by decide:¬((3:Int)=0)) he).elim
 rename_i e8;rw[if_neg e8,hc.at_];obtain⟨a1,a2⟩:=Cx R _ [] (Classical.not_not.1 e);rw[List.nil_append]at a1;have hsh:=(hw.ok.ok.aa.shape x.toNat hl);have hcal:uS p x=k:=hc.last;refine t.push h.full h1 (Fj hw.ok hc.lt jB (by rw[a1,List.length_map];exact hc.args) fun i hi=>?_) ⟨by rw[<-hat];exact hst,by rw[<-hat,<-hx];exact hk,by rw[<-hat,<-hx];exact hcal⟩;rw[a1,List.length_map]at hi;have hm:=dT hi;have hb:=hsh.2.1 _ hm;rw[a1,sI _ _ _ hi];have:=Ch hw.ok (R:=R) (t.fr (R.nf-1) jB).o9 hb.1 jB (hsh.1.call hk _ hm) (a2 _ hm);have hty:=hcw.args i hi;rw[hcal,Int.toNat_natCast]at hty;rwa [hty]at this
theorem ee.with{p:ab}{R:RS}(t:ee p R){hp:List (List Int)}(h:R.heap.length<=hp.length)(i:Int)(o:List ByteArray):ee p { R with heap:=hp,in_:=i,ax:=o }:=⟨fun k hk=>(t.fr k hk).mono (by show(R.heap.length:Int)<=(hp.length:Int);omega),t.link⟩
theorem ee.bT{p:ab}(hw:iW p){R:RS}(h:bF p R)(t:ee p R){inp:List Int}(hn:inp.length<=1000)(hwt:¬jo p R.st (cu p R.st) inp)(he:(R.bT p (cu p R.st) inp).2=0):ee p (R.bT p (cu p R.st) inp).1:=by
 have hs:=hw.ok;obtain⟨s0,s1,s2,_⟩:=h.stmt hs;have sh:=(hs.ok.aa.shape _ s1);have h1:=h.one;have hnf:=h.inv.ok.nf;have tf:=t.fr (R.nf-1) jB;have hat:=h.lV;have ay:∀i,i<(ai p (cu p R.st)).l.length->0<=nth (ai p (cu p R.st)).l i/\(nth (ai p (cu p R.st)).l i).toNat<p.aa.nodes.length:=fun i hi=>by have:=sh.2.1 _ (dT (l:=(ai p (cu p R.st)).l) hi);omega
 have hsw:=((u9 hw h.fr tf h.af).1 0);rw[<-hat]at hsw;have hpl:=h.fr.pl _ (mD h.af.1);have ha0:=hpl.a0;have hb2:=h.af.2;have kidB:∀(x:bf),x.block=R.ah.pl.block->(x.at_=R.ah.pl.at_\/x.at_=R.ah.pl.at_+1)->(ai p (cu p R.st)).kind=15\/(ai p (cu p R.st)).kind=16->∀b,b∈(ai p (cu p R.st)).l.drop 1->pE p x b:=fun x hx1 hx2 hk b hb=>by rw[hat]at hk hb;exact⟨R.ah.pl.at_.toNat,jB,by rw[hx1];omega,by rw[hx1];exact hk,by rw[hx1];exact hb⟩
 have hdp:(ai p (cu p R.st)).kind=16->∀b,b∈(ai p (cu p R.st)).l.drop 1->ee p (R.bs b):=fun hk b hb=> t.aQ hnf h1 (tf.bs h.af.1 (kidB _ rfl (.inl rfl) (.inr hk) b hb)) rfl
 have hod:(ai p (cu p R.st)).kind=15->∀b,b∈(ai p (cu p R.st)).l.drop 1->ee p (R.on.bs b):=fun hk b hb=>by
  have hon:=t.on h jB;have hne:(fK R.ah).path≠[]:=by rw[oq h.af.1];simp
  have hpl:(fK R.ah).pl=⟨R.ah.pl.block,R.ah.pl.at_+1⟩:=by
   unfold aI.pl;have hl:R.ah.path.length≠0:=fun e=>h.af.1 (List.length_eq_zero_iff.1 e)
   have e:(fK R.ah).path.length=R.ah.path.length:=by show(List.set _ _ _).length=_;simp
   rw[e];show nth (R.ah.path.set (R.ah.path.length-1) _) (R.ah.path.length-1)=_;rw[Go.Gd.bh _ _ _ _ jB,if_pos rfl]
  have htop:R.on.ah=fK R.ah:=RS.ij h.inv.ok h1 _;have tf2:=iT.on h.fr tf h.af (by rw[<-hat];omega);refine hon.aQ (by show R.nf<=(R.aK.set _ _).length;simpa using hnf) h1 ?_ rfl;rw[htop];exact tf2.bs hne (kidB _ (by rw[hpl]) (.inr (by rw[hpl])) (.inl hk) b hb)
 unfold RS.bT at he ⊢;simp only at he ⊢;split at he
 ·rename_i e;rw[if_pos e];obtain⟨a,ha,hr⟩:=sh.1.right e;have hla:(ai p (cu p R.st)).l=[a]:=ha;have hx:nth (ai p (cu p R.st)).l 0=a:=by rw[hla];rfl
  have ha0:=ay 0 (by rw[hla];simp);rw[hx]at ha0;have hty:=hs.ok.ty a.toNat (Nat.zero_le _) ha0.2;unfold RS.right at he ⊢;simp only[hx]at he ⊢;split at he
  ·rename_i e1;rw[if_pos e1];exact t.call hw h hx.symm jB ha0.1 ha0.2 e1 he
  rename_i e1;rw[if_neg e1];split at he
  ·rename_i e2;rw[if_pos e2];have hin:¬((inp.length:Int)<=R.in_):=fun hle=>hwt ⟨e,by rw[hx];exact e2,hle⟩
   have hd:bF p { R with in_:=R.in_+1 }:=h.with (hp:=R.heap) (i:=R.in_+1) (o:=R.ax) h.cells ⟨by have:=h.gK;omega,jB⟩ h.outs
   have tw:=t.with (hp:=R.heap) jl (R.in_+1) R.ax
   exact tw.store hw hd e ⟨by show(1:Int)=nth p.types (nth (ai p (cu p R.st)).l 0).toNat;rw[hx];exact(hty.in_ e2).symm,rfl,fun h4=>absurd h4 (by show¬((1:Int)=4);decide)⟩
  rename_i e2;rw[if_neg e2];split at he
  ·rename_i e3;rw[if_pos e3];split at he
   ·rename_i e4;rw[if_pos e4];have hd:=h.fresh a e4;have tw:ee p (R.fresh p a).1/\n6 (R.fresh p a).1.heap.length 4 (R.fresh p a).2.1/\(R.fresh p a).1.st.aq=R.st.aq:=by
     unfold RS.fresh at e4 ⊢;simp only at e4 ⊢;split at e4
     ·rename_i e5;exact(e5 e4).elim
     rename_i e5;rw[if_neg e5];split at e4
     ·exact((by decide:¬((7:Int)=0)) e4).elim
     rename_i e6;rw[if_neg e6];split at e4
     ·exact((by decide:¬((4:Int)=0)) e4).elim
     rename_i e7;rw[if_neg e7];refine⟨t.with (hp:=R.heap++[List.replicate _ 0]) jE R.in_ R.ax,⟨rfl,?_,fun _=>by show((R.heap.length:Int)+1)<=((R.heap++[List.replicate _ 0]).length:Int);simp⟩,rfl⟩;have h0:(0:Int)<=R.heap.length+1:=jB;unfold j9;rw[if_neg (by show¬((4:Int)=1);decide),if_neg (by show¬((4:Int)=2);decide),if_neg (by show¬((4:Int)=3);decide),if_pos rfl];rw[decide_eq_true (show(⟨4,(R.heap.length:Int)+1,sE⟩:ak).s=sE from rfl),decide_eq_true (show 0<=(⟨4,(R.heap.length:Int)+1,sE⟩:ak).n from h0)];rfl
    obtain⟨t1,t2,t3⟩:=tw;have hat':cu p (R.fresh p a).1.st=cu p R.st:=by unfold cu aJ.af;rw[t3]
    have:=t1.store hw hd (by rw[hat'];exact e) (v:=(R.fresh p a).2.1) (by rw[hat',hx,hty.new e3];exact t2);rw[hat']at this;exact this
   ·rename_i e4;exact(e4 he).elim
  rename_i e3;rw[if_neg e3];split at he
  ·rename_i e4;rw[if_pos e4];have hE:bQ (bt p.aa.nodes a):=by
    rcases hr with hr|hr|hr|hr
    ·exact hr
    ·exact(e2 hr).elim
    ·exact(e3 hr).elim
    ·exact(e1 hr).elim
   exact t.store hw h e (by rw[hx];exact Ch hs tf.o9 ha0.1 ha0.2 hE e4)
  ·rename_i e4;exact(e4 he).elim
 rename_i e;rw[if_neg e];have hk10:(ai p (cu p R.st)).kind≠10:=fun h=>e (.inl h)
 split at he
 ·rename_i e1;rw[if_pos e1];obtain⟨a,ha,hr⟩:=sh.1.nL e1;have hla:(ai p (cu p R.st)).l=[a]:=ha;have ha0:=ay 0 (by rw[hla];simp);have hx:nth (ai p (cu p R.st)).l 0=a:=by rw[hla];rfl
  rw[hx]at ha0 he ⊢;exact t.call hw h hx.symm jB ha0.1 ha0.2 hr he
 rename_i e1;rw[if_neg e1];split at he
 ·rename_i e2;rw[if_pos e2];unfold RS.put at he ⊢;simp only at he ⊢;split at he
  ·rename_i e3;exact(e3 he).elim
  rename_i e3;rw[if_neg e3];split at he
  ·rename_i e4;exact(e4 he).elim
  rename_i e4;rw[if_neg e4];split at he
  ·exact((by decide:¬((2:Int)=0)) he).elim
  rename_i e5;rw[if_neg e5];have hg:(lz R.heap (dp R.ah.slots (nth p.slots (cu p R.st).toNat) 4)).length≠0:=jB;generalize hv:dp R.ah.slots (nth p.slots (cu p R.st).toNat) 4=v at*;unfold lz at hg;split at hg
  ·simp at hg
  rename_i e6;have hd:=h.with (hp:=R.heap.set (v.n-1).toNat ((nth R.heap (v.n-1).toNat).set (R.val p (nth (ai p (cu p R.st)).l 0)).1.n.toNat (R.val p (nth (ai p (cu p R.st)).l 1)).1.n)) (i:=R.in_) (o:=R.ax) (by rw[CL _ _ _ jB jE];exact h.cells) ⟨h.gK,h.gw⟩ h.outs
  exact(t.with jE R.in_ R.ax).on hd hk10
 rename_i e2;rw[if_neg e2];split at he
 ·rename_i e3;rw[if_pos e3];have hret:=hsw.ret e3;have hf1:=h.fr.f1;have hf0:=h.fr.f0;split at he
  ·rename_i e4;rw[if_pos e4];exact t.bL hw h.inv h1 fun hz=>(hz (hret.2 jB)).elim
  rename_i e4;rw[if_neg e4];split at he
  ·rename_i e5;exact(e5 he).elim
  rename_i e5;rw[if_neg e5];refine t.bL hw h.inv h1 fun hz=>?_
  rcases sh.1.ret e3 with hl|⟨x,hl,hxe⟩
  ·have hl:(ai p (cu p R.st)).l=[]:=hl;rw[hl]at e4;exact(e4 rfl).elim
  ·have hl:(ai p (cu p R.st)).l=[x]:=hl;have hx:nth (ai p (cu p R.st)).l 0=x:=by rw[hl];rfl
   have hx0:=ay 0 (by rw[hl];simp);have hty:=hret.1 (by rw[hl];rfl);rw[<-hty];rw[hx]at hx0 e5 ⊢;exact Ch hs tf.o9 hx0.1 hx0.2 hxe (Classical.not_not.1 e5)
 rename_i e3;rw[if_neg e3];split at he
 ·rename_i e4;exact(e4 he).elim
 rename_i e4;rw[if_neg e4];split at he
 ·rename_i e5;rw[if_pos e5];split at he
  ·exact((by decide:¬((5:Int)=0)) he).elim
  rename_i e6;rw[if_neg e6];have hd:=h.with (hp:=R.heap) (i:=R.in_) (o:=R.ax++[kn (R.val p (nth (ai p (cu p R.st)).l 0)).1]) h.cells ⟨h.gK,h.gw⟩ jF
  exact(t.with jl R.in_ _).on hd hk10
 rename_i e5;rw[if_neg e5];split at he
 ·rename_i e6;rw[if_pos e6];obtain⟨a,b,h1,h2,hl⟩:=sh.1.kz e6;split
  ·refine hod e6 _ ?_;rcases hl with hl|⟨d,hl,_⟩<;>(unfold ai;rw[hl];simp[nth])
  split
  ·rename_i e8;rcases hl with hl|⟨d,hl,hd⟩
   ·exfalso;unfold ai at e8;rw[hl]at e8;simp at e8
   ·refine hod e6 _ ?_;unfold ai;rw[hl];simp[nth]
  ·exact t.on h hk10
 rename_i e6;rw[if_neg e6];split at he
 ·rename_i e7;rw[if_pos e7];obtain⟨a,b,hl,h1,h2⟩:=sh.1.dS e7;split
  ·refine hdp e7 _ ?_;unfold ai;rw[hl];simp[nth]
  ·exact t.on h hk10
 ·rename_i e7;exfalso;have:dL (ai p (cu p R.st)).kind:=s2;unfold dL at this;omega
theorem ee.st{p:ab}{R:RS}(hok:R.nf<=R.aK.length)(t:ee p R):ee p (RS.of R.st):=by
 have hl:(RS.of R.st).nf=R.nf:=by show(R.aK.take R.nf).length=_;simp;omega
 have hfr:∀k,k<R.nf->nth (RS.of R.st).aK k=nth R.aK k:=fun k hk=>cd _ _ _ hk
 refine⟨fun k hk=>?_,fun k hk=>?_⟩
 ·rw[hl]at hk;rw[hfr k hk];exact t.fr k hk
 ·rw[hl]at hk;rw[hfr k jB,hfr (k+1) hk];exact t.link k hk
theorem Qx(hw:iW p){s:aJ}(hI:cI p s)(t:ee p (RS.of s)){inp:List Int}(hn:inp.length<=1000):ee p (RS.of (dn p s inp)):=by
 unfold dn;split
 ·exact t
 rename_i h0;have h2:¬(s.status=2\/s.status=3):=fun hh=>h0 (by unfold dK;rw[if_pos hh];decide)
 split
 ·exact⟨t.fr,t.link⟩
 rename_i hwt;simp only;split
 ·exact⟨t.fr,t.link⟩
 ·rename_i he;have hd:=hI.gM (fun hh=>h2 (.inl hh)) 0 jC;have hat:cu p (RS.of { s with status:=0 }).st=dK p s:=by rw[RS.fy];unfold dK;rw[if_neg h2];rfl
  have hst:(RS.of { s with status:=0 }).st={ s with status:=0 }:=RS.fy _;have hA:=hd.bT hw.ok hn (by rw[hat,hst];exact hwt) (by rw[hat];exact Classical.not_not.1 he);have hT:=ee.bT hw hd (R:=RS.of { s with status:=0 }) ⟨t.fr,t.link⟩ hn (by rw[hat,hst];exact hwt) (by rw[hat];exact Classical.not_not.1 he);rw[hat]at hA hT;generalize (RS.of { s with status:=0 }).bT p (dK p s) inp=X at*;have hX:ee p { X.1 with time:=s.time+1 }:=⟨hT.fr,hT.link⟩;have hI2:cO p { X.1 with time:=s.time+1 }:=⟨⟨hA.inv.ok.nf,hA.inv.ok.jp⟩,hA.inv.aK,hA.inv.fr,hA.inv.busy,hA.inv.go⟩;exact ee.st (sM _ _ hI2 (Nat.lt_succ_self _)).1.ok.nf (ee.settle hw _ hI2 hX)
theorem Eg(hw:iW p):ee p (gO p):=by
 obtain⟨m,hm,hidx,_,hpar⟩:=yS hw.ok;refine⟨fun k hk=>?_,fun k hk=>?_⟩
 ·have hk:k<1:=hk;have:k=0:=jB;subst this;show iT p (([]:List (List Int)).length:Int) (jc p (jy p) []);rw[hidx];exact Fj hw.ok hm jE (by rw[hpar];rfl) fun i hi=>by simp at hi
 ·have hk:k+1<1:=hk;omega
end Go.Proofs.YtfkgcobaheegbaaGreatDoor

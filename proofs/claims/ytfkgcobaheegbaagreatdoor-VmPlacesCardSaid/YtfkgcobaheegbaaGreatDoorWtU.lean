/- Lemmas. No conditions. -/
import Derived.Test.YtfkgcobaheegbaaGreatDoorSoH
set_option linter.all false
set_option maxHeartbeats 4000000
namespace Go.Proofs.YtfkgcobaheegbaaGreatDoor
open Go Go.Gd
structure Fx(I:Nat->Prop)(c c':Ck):Prop where
 aa:c'.aa=c.aa
 fn:c'.fn=c.fn
 at_:∀k,nth c'.ap k=nth c.ap k\/(I k/\nth c'.ap k=c.fn)
theorem Fx.refl(I:Nat->Prop)(c:Ck):Fx I c c:=⟨rfl,rfl,fun _=>.inl rfl⟩
theorem Fx.trans{I:Nat->Prop}{a b c:Ck}(h:Fx I a b)(k:Fx I b c):Fx I a c:=⟨k.aa.trans h.aa,k.fn.trans h.fn,fun i=>by
 rcases k.at_ i with e|⟨e1,e2⟩
 ·rw[e];exact h.at_ i
 ·exact .inr ⟨e1,e2.trans h.fn⟩⟩
variable{I:Nat->Prop}
theorem sM{c c':Ck}(h0:c'.aa=c.aa)(h1:c'.fn=c.fn)(h2:c'.ap=c.ap):Fx I c c':=⟨h0,h1,fun k=>.inl (by rw[h2])⟩
theorem rC(I:Nat->Prop)(c:Ck)(e a:Int):Fx I c (c.aE e a):=by unfold Ck.aE;split<;>exact sM rfl rfl rfl
theorem pL(I:Nat->Prop)(c:Ck)(b:Bool)(a:Int):Fx I c (c.aq b a):=by unfold Ck.aq;split;exact .refl _ _;exact rC _ _ _ _
theorem uJ(I:Nat->Prop)(c:Ck)(a:Int):Fx I c (c.named a).1:=by unfold Ck.named;split;exact rC _ _ _ _;exact sM rfl rfl rfl
theorem B2(c:Ck){a:Int}(h:I a.toNat):Fx I c (c.ac a):=⟨rfl,rfl,fun k=>by
 show nth (c.ap.set a.toNat c.fn) k=_\/_;rw[oP];split
 ·rename_i e;exact .inr ⟨e.1 ▸ h,by show nth (c.ap.set a.toNat c.fn) k=_;rw[oP,if_pos e]⟩
 ·exact .inl rfl⟩
theorem OS(c:Ck){a:Int}(t:Int)(h:I a.toNat):Fx I c (c.note a t):=⟨rfl,rfl,(B2 c h).at_⟩
theorem yt{c x y:Ck}{q:Prop}[Decidable q](h:Fx I c x)(k:Fx I c y):Fx I c (if q then x else y):=by split;exact h;exact k
def Cl(t:ax)(I:Nat->Prop):Prop:=∀k,I k->k<t.nodes.length/\∀a∈(nth t.nodes k).l,I a.toNat
def CK(t:ax)(I:Nat->Prop)(ex:Ck->Int->Ck×Int):Prop:=∀c a,c.aa=t->I a.toNat->dM (bs t.nodes a)->Fx I c (ex c a).1
theorem Hj{t:ax}{I:Nat->Prop}{ex:Ck->Int->Ck×Int}(hx:CK t I ex):∀(L:List Int) (c:Ck) (ts:List Int),c.aa=t->(∀a∈L,I a.toNat/\dM (bs t.nodes a))->Fx I c (fA ex c L ts).1
 |[],c,ts,hc,hL=>by unfold fA;exact .refl _ c
 |a::L,c,ts,hc,hL=>by
  unfold fA;split
  ·have h1:=hx c a hc (hL a jE).1 (hL a jE).2
   exact h1.trans (Hj hx L _ _ (h1.aa.trans hc) fun b hb=>hL b (by simp[hb]))
  ·exact .refl _ c
theorem D2(I:Nat->Prop)(a:Int):∀(ts:List Int) (ps:List bD) (c:Ck),Fx I c (gx a c ts ps)
 |[],ps,c=>by rw[rD];exact .refl _ c
 |_::_,[],c=>by rw[sj];exact .refl _ c
 |x::ts,p::ps,c=>by
  unfold gx;split
  ·exact(pL _ _ _ _).trans (D2 I a ts ps _)
  ·exact .refl _ c
theorem zP{t:ax}(ht:aH t){I:Nat->Prop}(hI:Cl t I):∀n,CK t I (ar n)
 |0=>fun c a hc ha hr=>by unfold ar;exact .refl _ c
 |n+1=>fun c a hc ha hr=>by
  have hx:=zP ht hI n;unfold ar;split
  ·exact .refl _ c
  refine Fx.trans (b:=(bU (ar n) c a).1) ?_ (OS _ _ ha);obtain⟨hal,hak⟩:=hI _ ha;have sh:=(ht.shape a.toNat hal).1;have hnode:c.node a=nth t.nodes a.toNat:=by unfold Ck.node;rw[hc]
  have kd:∀i,c.aw a i=nth (nth t.nodes a.toNat).l i:=fun i=>by unfold Ck.aw;rw[hnode]
  have hr':dM (nth t.nodes a.toNat).kind:=hr;unfold dM bO at hr';have one:∀x,(nth t.nodes a.toNat).l=[x]->bO (bs t.nodes x)->∀c',c'.aa=t->Fx I c' (ar n c' (c.aw a 0)).1:=fun x hl hxe c' hc'=>by
   have hk0:c.aw a 0=x:=by rw[kd,hl];rfl
   rw[hk0];exact hx c' x hc' (hak x (by rw[hl];simp)) (.inl hxe)
  unfold bU;simp only;rw[hnode];split
  ·exact .refl _ c
  split
  ·exact .refl _ c
  split
  ·exact .refl _ c
  split
  ·exact uJ _ _ _
  split
  ·rename_i k
   have hcall:=sh.call k;unfold gh;split
   ·exact rC _ _ _ _
   ·simp only
    refine((Hj hx _ c _ hc fun b hb=>?_).trans (yt (rC _ _ _ _) (.refl _ _))).trans (D2 _ _ _ _ _);rw[hnode]at hb;exact⟨hak b hb,.inl (hcall b hb)⟩
  split
  ·obtain⟨x,hl,hxe⟩:=sh.one jB
   exact((uJ I c a).trans (one x hl hxe _ ((uJ I c a).aa.trans hc))).trans (pL _ _ _ _)
  split
  ·obtain⟨x,y,hl,hxe,hye⟩:=sh.two jB
   have hk0:c.aw a 0=x:=by rw[kd,hl];rfl
   have hk1:c.aw a 1=y:=by rw[kd,hl];rfl
   rw[hk0,hk1];have h1:=hx c x hc (hak x (by rw[hl];simp)) (.inl hxe);exact(h1.trans (hx _ y (h1.aa.trans hc) (hak y (by rw[hl];simp)) (.inl hye))).trans (pL _ _ _ _)
  ·obtain⟨x,hl,hxe⟩:=sh.one jB
   (repeat' split)<;>exact(one x hl hxe c hc).trans (pL _ _ _ _)
theorem vt{t:ax}{I:Nat->Prop}{st:Ck->Int->Ck}{C:Int->Prop}(hs:∀c a,c.aa=t->I a.toNat->C (bs t.nodes a)->Fx I c (st c a)):∀(L:List Int) (c:Ck),c.aa=t->(∀a∈L,I a.toNat/\C (bs t.nodes a))->Fx I c (cY st c L)
 |[],c,hc,hL=>by unfold cY;exact .refl _ c
 |a::L,c,hc,hL=>by
  unfold cY;split
  ·have h1:=hs c a hc (hL a jE).1 (hL a jE).2
   exact h1.trans (vt hs L _ (h1.aa.trans hc) fun b hb=>hL b (by simp[hb]))
  ·exact .refl _ c
variable{t:ax}
theorem Aj(ht:aH t)(hI:Cl t I){st:Ck->Int->Ck}(hs:∀c a,c.aa=t->I a.toNat->dv (bs t.nodes a)->Fx I c (st c a))(c:Ck)(a:Int)(hc:c.aa=t)(ha:I a.toNat)(hk:bs t.nodes a=18):Fx I c (dR st c a):=by
 obtain⟨hal,hak⟩:=hI _ ha;have hb:=(ht.shape a.toNat hal).1.block hk;have hnode:c.node a=nth t.nodes a.toNat:=by unfold Ck.node;rw[hc]
 unfold dR;simp only;refine((B2 c ha).trans (vt (C:=dv) hs _ _ hc fun b hb'=>?_)).trans (sM rfl rfl rfl);rw[hnode]at hb';exact⟨hak b hb',hb b hb'⟩
theorem N7{t:ax}{ex:Ck->Int->Ck×Int}(c:Ck)(a:Int)(hx:Fx I c (ex c (c.aw a 0)).1):Fx I c (oj ex c a):=by
 have hA:Fx I c (gg ex c a):=hx.trans (pL _ _ _ _);have hB:Fx I (gg ex c a) (iB ex c a):=yt (rC _ _ _ _) (.refl _ _);have hC:Fx I (iB ex c a) (dq ex c a):=yt (rC _ _ _ _) (.refl _ _);rw[sD];exact((hA.trans hB).trans hC).trans (sM rfl rfl rfl)
theorem GL(ht:aH t)(hI:Cl t I){n:Nat}(ih:∀(c:Ck) (a:Int),c.aa=t->I a.toNat->dv (bs t.nodes a)->Fx I c (bu n c a))(c:Ck)(a:Int)(hc:c.aa=t)(ha:I a.toNat)(hr:dv (bs t.nodes a)):Fx I (c.ac a) (bu (n+1) c a):=by
 have hx:=zP ht hI n;obtain⟨hal,hak⟩:=hI _ ha;have sh:=(ht.shape a.toNat hal).1;have hnode:(c.ac a).node a=nth t.nodes a.toNat:=by unfold Ck.node;show nth c.aa.nodes _=_;rw[hc]
 have hc':(c.ac a).aa=t:=hc;have kd:∀i,(c.ac a).aw a i=nth (nth t.nodes a.toNat).l i:=fun i=>by unfold Ck.aw;rw[hnode]
 have hr':dv (nth t.nodes a.toNat).kind:=hr;unfold dv at hr';have one:∀x,(nth t.nodes a.toNat).l=[x]->dM (bs t.nodes x)->∀c',c'.aa=t->Fx I c' (ar n c' ((c.ac a).aw a 0)).1:=fun x hl hxe d hd=>by
  have hk0:(c.ac a).aw a 0=x:=by rw[kd,hl];rfl
  rw[hk0];exact hx d x hd (hak x (by rw[hl];simp)) hxe
 unfold bu;simp only;rw[hnode];split
 ·obtain⟨x,hl,hxe⟩:=sh.right jB
  exact N7 (t:=t) _ _ (one x hl hxe _ hc')
 split
 ·obtain⟨x,hl,hxe⟩:=sh.right jB
  exact((uJ I _ a).trans (one x hl hxe _ ((uJ I _ a).aa.trans hc'))).trans (pL _ _ _ _)
 split
 ·obtain⟨x,y,hl,hxe,hye⟩:=sh.two jB
  have hk0:(c.ac a).aw a 0=x:=by rw[kd,hl];rfl
  have hk1:(c.ac a).aw a 1=y:=by rw[kd,hl];rfl
  rw[hk0,hk1];have h0:=uJ I (c.ac a) a;have h1:=h0.trans (hx _ x (h0.aa.trans hc') (hak x (by rw[hl];simp)) (.inl hxe));exact(h1.trans (hx _ y (h1.aa.trans hc') (hak y (by rw[hl];simp)) (.inl hye))).trans (pL _ _ _ _)
 split
 ·obtain⟨x,hl,hxk⟩:=sh.mR jB
  exact one x hl (by rw[hxk];unfold dM;omega) _ hc'
 split
 ·obtain⟨x,hl,hxe⟩:=sh.one jB
  exact(one x hl (.inl hxe) _ hc').trans (pL _ _ _ _)
 split
 ·unfold jw
  simp only;rw[hnode];split
  ·exact rC _ _ _ _
  split
  ·rename_i e1
   rcases sh.ret jB with hl|⟨x,hl,hxe⟩
   ·rw[hl]at e1;cases e1
   ·exact(one x hl (.inl hxe) _ hc').trans (pL _ _ _ _)
  ·exact .refl _ _
 ·have hsh:∃x L,(nth t.nodes a.toNat).l=x::L/\bO (bs t.nodes x)/\∀y∈L,bs t.nodes y=18:=by
   rcases(show(nth t.nodes a.toNat).kind=15\/(nth t.nodes a.toNat).kind=16 from jB)with k|k
   ·obtain⟨x,y,hx,hy,hl|⟨z,hl,hz⟩⟩:=sh.kg k
    ·exact⟨x,[y],hl,hx,fun u hu=>by rw[List.mem_singleton.1 hu];exact hy⟩
    ·exact⟨x,[y,z],hl,hx,fun u hu=>by
      rcases List.mem_cons.1 hu with rfl|hu
      ·exact hy
      ·rw[List.mem_singleton.1 hu];exact hz⟩
   ·obtain⟨x,y,hl,hx,hy⟩:=sh.dK k
    exact⟨x,[y],hl,hx,fun u hu=>by rw[List.mem_singleton.1 hu];exact hy⟩
  obtain⟨x,L,hl,hxe,hL⟩:=hsh;have hk0:(c.ac a).aw a 0=x:=by rw[kd,hl];rfl
  rw[hk0,hl];have h1:=(hx (c.ac a) x hc' (hak x (by rw[hl];simp)) (.inl hxe)).trans (pL _ _ (decide ((ar n (c.ac a) x).2=2)) a);refine h1.trans (vt (C:=fun k=>k=18) (fun d b hd hb hk=>Aj ht hI ih d b hd hb hk) _ _ (h1.aa.trans hc') fun b hb=>?_);have hb:b∈L:=hb;exact⟨hak b (by rw[hl];simp[hb]),hL b hb⟩
theorem ut{t:ax}(ht:aH t){I:Nat->Prop}(hI:Cl t I):∀(n:Nat) (c:Ck) (a:Int),c.aa=t->I a.toNat->dv (bs t.nodes a)->Fx I c (bu n c a)
 |0,c,a,hc,ha,hr=>by unfold bu;exact .refl _ c
 |n+1,c,a,hc,ha,hr=>(B2 c ha).trans (GL ht hI (ut ht hI n) c a hc ha hr)
theorem uI(ht:aH t){lo hi:Nat}{L:List Int}(h:aG t.nodes lo L hi)(hl:hi<=t.nodes.length):Cl t fun k=>lo<=k/\k<hi:=fun k ⟨h1,h2⟩=>⟨jB,fun a ha=>by
 have:=h.closed k h1 h2 a ha;have:=((ht.shape k jB).2.1 a ha).2;omega⟩
theorem C7(I:Nat->Prop)(body:Int):∀(ps:List bD) (c:Ck) (i:Int),Fx I c (dD body c ps i)
 |[],c,i=>by unfold dD;exact .refl _ c
 |p::ps,c,i=>by
  unfold dD;simp only;have h1:Fx I c (if 0<=c.find p.name then c.aE 41 body else c):=yt (rC I c 41 body) (.refl _ c);generalize (if 0<=c.find p.name then c.aE 41 body else c)=d at*;refine h1.trans ?_;exact Fx.trans (b:={ d with vars:=d.vars++[⟨p.name,p.ty,i⟩],more:=d.more.drop 1,size:=d.size+1 }) (sM rfl rfl rfl) (C7 I body ps _ _)
theorem PZ(ht:aH t){c:Ck}(hc:c.aa=t){k:Nat}(hk:k<t.ap.length){lo:Nat}(hch:aG t.nodes lo (nth t.nodes (nth t.ap k).body.toNat).l (nth t.ap k).body.toNat):∀q,(q<lo\/(nth t.ap k).body.toNat+1<=q)->nth (ff c k).ap q=nth c.ap q:=by
 subst hc;have hbN:=ot ht hk;have hbk:=ht.body _ (dx hk);have hch2:=aG.j5 hbN.1 hbN.2 hch;have hI:=uI ht hch2 (by have:=hbN.1;have:=hbN.2;omega);have h:Fx (fun q=>lo<=q/\q<(nth c.aa.ap k).body.toNat+1) { c with fn:=(k:Int),vars:=[],more:=[],size:=0 } (ff c k):=by
  unfold ff;simp only;have h1:=C7 (fun q=>lo<=q/\q<(nth c.aa.ap k).body.toNat+1) (nth c.aa.ap k).body (nth c.aa.ap k).params { c with fn:=(k:Int),vars:=[],more:=[],size:=0 } 0;generalize dD (nth c.aa.ap k).body { c with fn:=(k:Int),vars:=[],more:=[],size:=0 } (nth c.aa.ap k).params 0=d at*;have h2:=h1.trans (Aj ht hI (ut ht hI c.aa.nodes.length) d (nth c.aa.ap k).body h1.aa ⟨by have:=hch.le;omega,jB⟩ hbk);split
  ·exact h2.trans (sM rfl rfl rfl)
  ·exact h1.trans (sM rfl rfl rfl)
 intro q hq;rcases h.at_ q with e|⟨e,_⟩
 ·exact e
 ·omega
end Go.Proofs.YtfkgcobaheegbaaGreatDoor
namespace Go.Gd
open Go
def Gl(p:ab)(x:Int):bC:=⟨(ai p x).name,nth p.types (nth (ai p x).l 0).toNat,nth p.slots x.toNat⟩
def nZ(p:ab)(x:Int)(vars:List bC):List bC:=if(ai p x).kind=10 then vars++[Gl p x]else vars
def my:List bD->Int->List bC
 |[],_=>[]
 |x::l,i=>⟨x.name,x.ty,i⟩::my l (i+1)
def qi(p:ab)(f:aI):ja:=⟨f.fn,nth (ai p f.pl.block).l f.pl.at_.toNat,f.slots⟩
def oF(p:ab)(s:aK):kS:=⟨s.ao.map (qi p),s.heap,s.in_,s.ay,s.status,s.bn,s.time⟩
def mW(p:ab)(L:List Int)(vars:List bC):List bC:=L.foldl (fun v x=>nZ p x v) vars
theorem A3(p:ab)(A B:List Int)(vars:List bC):mW p (A++B) vars=mW p B (mW p A vars):=List.foldl_append
def uO(p:ab)(x:Int):Int:=iF aW.name (ai p x).name p.aa.ap 0 (-1)
structure pG(p:ab)(x:Int):Prop where
 ret:nth p.types x.toNat=(nth p.aa.ap (uO p x).toNat).ret
 args:∀i,i<(ai p x).l.length->nth p.types (nth (ai p x).l i).toNat=(nth (nth p.aa.ap (uO p x).toNat).params i).ty
structure wI(p:ab)(j:Nat)(kids:List bC->Int->Prop)(vars:List bC)(x:Int):Prop where
 fn:nth p.fn x.toNat=j
 oW:(ai p x).kind=10->∀v∈vars,v.name≠(ai p x).name/\v.slot≠nth p.slots x.toNat
 set:(ai p x).kind=11->∃v∈vars,v.name=(ai p x).name/\v.slot=nth p.slots x.toNat/\v.ty=nth p.types (nth (ai p x).l 0).toNat
 put:(ai p x).kind=12->∃v∈vars,v.name=(ai p x).name/\v.slot=nth p.slots x.toNat/\v.ty=4
 call:(ai p x).kind=10\/(ai p x).kind=11\/(ai p x).kind=13->(ai p (nth (ai p x).l 0)).kind=21->pG p (nth (ai p x).l 0)
 ret:(ai p x).kind=17->((ai p x).l.length=1->nth p.types (nth (ai p x).l 0).toNat=(nth p.aa.ap j).ret)/\((ai p x).l.length≠1->(nth p.aa.ap j).ret=0)
 kids:(ai p x).kind=15\/(ai p x).kind=16->∀b∈(ai p x).l.drop 1,kids vars b
def uN(s:List bC->Int->Prop)(p:ab):List bC->List Int->Prop
 |_,[]=>True
 |vars,x::l=>s vars x/\uN s p (nZ p x vars) l
def oa(p:ab)(j:Nat):Nat->List bC->Int->Prop
 |0,_,_=>True
 |n+1,vars,b=>uN (wI p j (oa p j n)) p vars (ai p b).l
def pE(l:List bC):Prop:=l.Pairwise fun v w=>v.name≠w.name/\v.slot≠w.slot
structure pm(p:ab)(j:Nat):Prop where
 env:pE (my (nth p.aa.ap j).params 0)
 body:∀m,oa p j m (my (nth p.aa.ap j).params 0) (nth p.aa.ap j).body
end Go.Gd
namespace Go.Proofs.YtfkgcobaheegbaaGreatDoor
open Go Go.Gd
def dL(p:ab)(c:Ck)(lo hi:Nat):Prop:=∀k,lo<=k->k<hi->nth p.types k=nth c.types k/\nth p.slots k=nth c.slots k/\nth p.fn k=nth c.ap k
variable{p:ab}{c':Ck}{lo:Nat}
theorem dL.sub{c:Ck}{hi lo' hi':Nat}(h:dL p c lo hi)(h1:lo<=lo')(h2:hi'<=hi)(e:∀k,lo'<=k->k<hi'->nth c.types k=nth c'.types k/\nth c.slots k=nth c'.slots k/\nth c.ap k=nth c'.ap k):dL p c' lo' hi':=fun k h3 h4=>by
 obtain⟨a,b,b'⟩:=h k jB jB;obtain⟨d,f,f'⟩:=e k h3 h4;exact⟨a.trans d,b.trans f,b'.trans f'⟩
structure vC(t:ax)(lo hi:Nat)(c c':Ck):Prop where
 ty:fP t lo hi c c'
 sl:fh t lo hi c c'
 fx:Fx (fun k=>lo<=k/\k<hi) c c'
theorem Fx.out{hi:Nat}{c:Ck}(h:Fx (fun k=>lo<=k/\k<hi) c c')(k:Nat)(hk:k<lo\/hi<=k):nth c'.ap k=nth c.ap k:=by
 rcases h.at_ k with e|⟨e,_⟩
 ·exact e
 ·omega
theorem vC.out{t:ax}{lo hi:Nat}{c c':Ck}(h:vC t lo hi c c')(k:Nat)(hk:k<lo\/hi<=k):nth c'.types k=nth c.types k/\nth c'.slots k=nth c.slots k/\nth c'.ap k=nth c.ap k:=⟨h.ty.tw k hk,h.sl.sw k hk,h.fx.out k hk⟩
variable{t:ax}{n:Nat}{a:Int}
theorem Bp(ht:aH t){c:Ck}(h:bv c)(hc:c.aa=t)(hv:bP c)(hs:bX c)(h0:0<=a)(h1:a<t.nodes.length)(hn:a.toNat<n)(hr:dM (bs t.nodes a))(hch:aG t.nodes lo (nth t.nodes a.toNat).l a.toNat)(he:(ar n c a).1.e=0) :
  vC t lo (a.toNat+1) c (ar n c a).1/\nth (ar n c a).1.types a.toNat=(ar n c a).2:=by
 obtain⟨r1,r2,_⟩:=tK ht n c a lo h hc hv h0 h1 hn hr hch he;exact⟨⟨r1,uZ ht n c a lo h hc hs h0 h1 hn hr hch he,zP ht (uI ht (aG.j5 h0 h1 hch) jB) n c a hc ⟨hch.le,jB⟩ hr⟩,r2⟩
theorem Fs{t:ax}(ht:aH t){n:Nat}:∀(L:List Int) (c:Ck) (ts:List Int) (lo hi:Nat),bv c->c.aa=t->bP c->bX c->hi<=n->hi<=t.nodes.length->(∀x∈L,dM (bs t.nodes x))->aG t.nodes lo L hi->(fA (ar n) c L ts).1.e=0->(fA (ar n) c L ts).2=ts++L.map fun x=>nth (fA (ar n) c L ts).1.types x.toNat
 |[],c,ts,lo,hi,h,hc,hv,hs,hn,hl,hr,hch,he=>by simp[fA]
 |a::L,c,ts,lo,hi,h,hc,hv,hs,hn,hl,hr,hch,he=>by
  have e0:=(qV (dp n) (a::L) c ts).e0 he;unfold fA at he ⊢;rw[if_pos e0]at he ⊢;obtain⟨c1,c2,c3,c4,c5,c6⟩:=gZ hch;have ev:=dp n c a;have e1:=(qV (dp n) L _ _).e0 he;obtain⟨r1,r2⟩:=Bp ht h hc hv hs c1 c2 jB (hr a jE) c5 e1;have hr':∀x∈L,dM (bs t.nodes x):=fun x hx=>hr x (by simp[hx])
  have k1:=Bs ht (tK ht n) L (ar n c a).1 (ts++[(ar n c a).2]) (a.toNat+1) hi (h.ev ev) (ev.aa.trans hc) (hv.ev ev) hn hl hr' c6 he;have k2:=Fs ht L (ar n c a).1 (ts++[(ar n c a).2]) (a.toNat+1) hi (h.ev ev) (ev.aa.trans hc) (hv.ev ev) (hs.ev ev) hn hl hr' c6 he;rw[k2,List.map_cons,k1.tw a.toNat (.inl jB),r2];simp
theorem GN(a:Int):∀(ts:List Int) (ps:List bD) (c:Ck),(gx a c ts ps).e=0->c.e=0/\∀i,i<ts.length->i<ps.length->nth ts i=(nth ps i).ty
 |[],ps,c,h=>by rw[rD]at h;exact⟨h,fun i hi=>by simp at hi⟩
 |_::_,[],c,h=>by rw[sj]at h;exact⟨h,fun i _ hi=>by simp at hi⟩
 |x::ts,p::ps,c,h=>by
  unfold gx at h;split at h
  ·rename_i e
   obtain⟨h1,h2⟩:=GN a ts ps _ h;obtain⟨h3,h4⟩:=gS h1;refine⟨h4,fun i hi hi'=>?_⟩;cases i with
   |zero=>exact of_decide_eq_true h3
   |succ i=>exact h2 i (by simpa using hi) (by simpa using hi')
  ·rename_i e;exact(e h).elim
theorem Ih(ht:aH t){c:Ck}(h:bv c)(hc:c.aa=t)(hv:bP c)(hs:bX c)(h0:0<=a)(h1:a<t.nodes.length)(hn:a.toNat<n)(hk:(nth t.nodes a.toNat).kind=21)(hch:aG t.nodes lo (nth t.nodes a.toNat).l a.toNat)(he:(ar n c a).1.e=0)(hp:p.aa=t)(hA:dL p (ar n c a).1 lo (a.toNat+1)):pG p a:=by
 obtain⟨m,rfl⟩:∃m,n=m+1:=⟨n-1,jB⟩;have hr:dM (bs t.nodes a):=by have:bs t.nodes a=21:=hk;rw[this];unfold dM;omega
 obtain⟨_,hty⟩:=Bp ht h hc hv hs h0 h1 hn hr hch he;have e0:=(dp (m+1) c a).e0 he;have hnode:c.node a=nth t.nodes a.toNat:=by unfold Ck.node;rw[hc]
 have hndp:ai p a=nth t.nodes a.toNat:=by unfold ai;rw[hp]
 have e:bU (ar m) c a=gh (ar m) c a:=by unfold bU;simp only;rw[hnode,hk];rfl
 have hcal:fb c a=uO p a:=by unfold fb uO;rw[hnode,hndp,hc,hp]
 have hcall:=(ht.shape a.toNat jB).1.call hk;have hex:ar (m+1) c a=((gh (ar m) c a).1.note a (gh (ar m) c a).2,(gh (ar m) c a).2):=by
  conv=>lhs;unfold ar
  rw[jN,e]
 rw[hex]at he hA hty;have he:(gh (ar m) c a).1.e=0:=he;have hAa:=(hA a.toNat hch.le jB).1;have hty:nth ((gh (ar m) c a).1.note a (gh (ar m) c a).2).types a.toNat=(gh (ar m) c a).2:=hty;unfold gh at he hA hAa hty;split at he
 ·exact(lJ jC he).elim
 rename_i hf;rw[if_neg hf]at hA hAa hty;simp only at he hA hAa hty;obtain⟨e1,e2⟩:=GN _ _ _ _ he;have e1':=e1;split at e1'
 ·exact(lJ jC e1').elim
 rename_i hl;rw[if_neg hl]at hA;have hrl:∀x∈(c.node a).l,dM (bs t.nodes x):=fun x hx=>.inl (hcall x (by rw[<-hnode];exact hx))
 have hchl:aG t.nodes lo (c.node a).l a.toNat:=by rw[hnode];exact hch
 have k2:=Fs ht (n:=m) (c.node a).l c [] lo a.toNat h hc hv hs jB jB hrl hchl e1';rw[List.nil_append]at k2;refine⟨?_,fun i hi=>?_⟩
 ·rw[hAa,hty,hcal,hc,hp]
 ·rw[hndp,<-hnode]at hi ⊢
  have hpl:i<(nth c.aa.ap (fb c a).toNat).params.length:=jB
  have h3:=e2 i (by rw[k2,List.length_map];exact hi) hpl;rw[k2,dN (by rw[List.length_map];exact hi),List.getElem_map]at h3;have hm:=(ht.shape a.toNat jB).2.1 _ (by rw[<-hnode];exact dx hi);have hlo:=(hchl.mem _ (dx hi)).2.1;have hA1:=(hA (nth (c.node a).l i).toNat hlo jB).1;rw[hA1];show nth (List.set (gx a _ _ _).types a.toNat _) _=_;rw[oP,jN,BY,<-hcal,hp,<-hc,<-h3,dN hi]
variable{nm:ByteArray}
theorem Ek{c:Ck}(h:¬0<=c.find nm):∀v∈c.vars,v.name≠nm:=by
 rcases vW bC.name nm c.vars 0 jB with⟨_,h2⟩|h1
 ·exact h2
 ·exact(h h1.1).elim
theorem Ly{c:Ck}(h:¬c.find nm<0):nth c.vars (c.find nm).toNat∈c.vars/\(nth c.vars (c.find nm).toNat).name=nm:=by
 have key:∀(l:List bC) (i:Int),0<=i->fX bC.name nm l i=-1\/(nth l (fX bC.name nm l i-i).toNat∈l/\(nth l (fX bC.name nm l i-i).toNat).name=nm/\i<=fX bC.name nm l i):=fun l=>by
  induction l with
  |nil=>intro i _;exact .inl rfl
  |cons v l ih=>
   intro i hi;unfold fX;by_cases hv:v.name=nm
   ·rw[if_pos hv,show(i-i).toNat=0 from jB]
    exact .inr ⟨by show v∈_;simp,hv,Int.le_refl _⟩
   ·rw[if_neg hv]
    rcases ih (i+1) jB with e|⟨a,b,d⟩
    ·exact .inl e
    ·rw[show(fX bC.name nm l (i+1)-i).toNat=(fX bC.name nm l (i+1)-(i+1)).toNat+1 from jB]
     exact .inr ⟨List.mem_cons_of_mem _ a,b,jB⟩
 rcases key c.vars 0 (Int.le_refl _)with e|⟨a,b,_⟩
 ·exact(h (by show fX bC.name nm c.vars 0<0;rw[e];decide)).elim
 ·rw[Int.sub_zero]at a b;exact⟨a,b⟩
theorem DW{c:Ck}(hsl:a.toNat<c.slots.length)(he:(c.named a).1.e=0)(hA:nth p.slots a.toNat=nth c'.slots a.toNat)(hsame:nth c'.slots a.toNat=nth (c.named a).1.slots a.toNat):∃v∈c.vars,v.name=(c.node a).name/\v.slot=nth p.slots a.toNat/\v.ty=(c.named a).2:=by
 rw[hA,hsame];unfold Ck.named at he ⊢;split at he
 ·exact(lJ jC he).elim
 rename_i hf;rw[if_neg hf];obtain⟨h1,h2⟩:=Ly hf;refine⟨_,h1,h2,?_,rfl⟩;show _=nth (List.set _ _ _) _;rw[oP,if_pos ⟨rfl,hsl⟩]
def xf(t:ax)(n:Nat):Prop:=∀(c:Ck) (a:Int) (lo:Nat),bv c->c.aa=t->bP c->bX c->c.e=0->0<=a->a<t.nodes.length->a.toNat<n->dv (bs t.nodes a)->aG t.nodes lo (nth t.nodes a.toNat).l a.toNat->(bu n c a).e=0->
 ∀p:ab,p.aa=t->dL p (bu n c a) lo (a.toNat+1)->∀j:Nat,c.fn=(j:Int)->(∀m,wI p j (oa p j m) c.vars a)/\(bu n c a).vars=nZ p a c.vars
theorem Ni(ht:aH t){c:Ck}(h:bv c)(hc:c.aa=t)(hv:bP c)(hs:bX c)(e0:c.e=0)(h0:0<=a)(h1:a<t.nodes.length)(hn:a.toNat<n)(hr:dv (bs t.nodes a))(hch:aG t.nodes lo (nth t.nodes a.toNat).l a.toNat)(he:(bu n c a).e=0) :
  vC t lo (a.toNat+1) c (bu n c a)/\bP (bu n c a)/\bX (bu n c a):=by
 obtain⟨r1,r2⟩:=un ht n c a lo h hc hv e0 h0 h1 hn hr hch he;obtain⟨r3,r4⟩:=ud ht n c a lo h hc hs e0 h0 h1 hn hr hch he;exact⟨⟨r1,r3,ut ht (uI ht (aG.j5 h0 h1 hch) jB) n c a hc ⟨hch.le,jB⟩ hr⟩,r2,r4⟩
theorem FV{t:ax}(ht:aH t){n:Nat}(hst:xf t n):∀(L:List Int) (c:Ck) (lo hi:Nat),bv c->c.aa=t->bP c->bX c->hi<=n->hi<=t.nodes.length->(∀x∈L,dv (bs t.nodes x))->aG t.nodes lo L hi->(cY (bu n) c L).e=0->
  ∀p:ab,p.aa=t->dL p (cY (bu n) c L) lo hi->∀j:Nat,c.fn=(j:Int)->∀m,uN (wI p j (oa p j m)) p c.vars L
 |[],c,lo,hi,h,hc,hv,hs,hn,hl,hr,hch,he,p,hp,hA,j,hj,m=>trivial
 |a::L,c,lo,hi,h,hc,hv,hs,hn,hl,hr,hch,he,p,hp,hA,j,hj,m=>by
  have e0:=(nL (kK n) (a::L) c h).e0 he;unfold cY at he hA;rw[if_pos e0]at he hA;obtain⟨c1,c2,c3,c4,c5,c6⟩:=gZ hch;have s:=kK n c a h e0;have e1:=(nL (kK n) L _ s.inv).e0 he;have hra:=hr a jE;obtain⟨r1,v1,v2⟩:=Ni ht h hc hv hs e0 c1 c2 jB hra c5 e1;have hr':∀x∈L,dv (bs t.nodes x):=fun x hx=>hr x (by simp[hx])
  have k1:=(vD ht (kK n) (C:=dv) (fun q b l g1 g2 g3 g4 g5 g6 g7 g8 g9 g10=>un ht n q b l g1 g2 g3 g4 g5 g6 g7 g8 g9 g10) L _ _ hi s.inv (s.aa.trans hc) v1 hn hl hr' c6 he).1;have k2:=(wN (kK n) (C:=dv) (ud ht n) L _ _ hi s.inv (s.aa.trans hc) v2 hn hr' c6 he).1;have hI:=uI ht c6 hl;have k3:=vt (t:=t) (I:=fun k=>a.toNat+1<=k/\k<hi) (C:=dv) (ut ht hI n) L (bu n c a) (s.aa.trans hc) fun x hx=>⟨⟨(c6.mem x hx).2.1,(c6.mem x hx).2.2.1⟩,hr' x hx⟩
  obtain⟨w1,w2⟩:=hst c a lo h hc hv hs e0 c1 c2 jB hra c5 e1 p hp (hA.sub jl jB fun k g1 g2=>⟨k1.tw k (.inl jB),k2.sw k (.inl jB),k3.out k (.inl jB)⟩) j hj;refine⟨w1 m,?_⟩;have w3:=FV ht hst L _ (a.toNat+1) hi s.inv (s.aa.trans hc) v1 v2 hn hl hr' c6 he p hp (hA.sub jB jl fun k g1 g2=>⟨rfl,rfl,rfl⟩) j (s.fn.trans hj) m;rw[w2]at w3;exact w3
theorem Cf(ht:aH t)(hst:xf t n){c:Ck}(h:bv c)(hc:c.aa=t)(hv:bP c)(hs:bX c)(h0:0<=a)(h1:a<t.nodes.length)(hn:a.toNat<=n)(hk:bs t.nodes a=18)(hch:aG t.nodes lo (nth t.nodes a.toNat).l a.toNat)(he:(dR (bu n) c a).e=0)(hp:p.aa=t)(hA:dL p (dR (bu n) c a) lo (a.toNat+1)){j:Nat}(hj:c.fn=(j:Int)):∀m,oa p j m c.vars a
 |0=>trivial
 |m+1=>by
  have hnode:c.node a=nth t.nodes a.toNat:=by unfold Ck.node;rw[hc]
  have hb:=(ht.shape a.toNat jB).1.block hk;have ev:=pe c a;show uN _ p c.vars (ai p a).l;have hnp:(ai p a).l=(c.node a).l:=by unfold ai;rw[hp,hnode]
  rw[hnp];exact FV ht hst (c.node a).l (c.ac a) lo a.toNat (h.ev ev) (ev.aa.trans hc) (hv.ev ev) (hs.ev ev) hn jB (fun x hx=>hb x (by rw[<-hnode];exact hx)) (by rw[hnode];exact hch) he p hp (hA.sub jl jB fun k _ _=>⟨rfl,rfl,rfl⟩) j hj m
theorem E8{t:ax}(ht:aH t){n:Nat}(hst:xf t n):∀(L:List Int) (c:Ck) (lo hi:Nat),bv c->c.aa=t->bP c->bX c->hi<=n->hi<=t.nodes.length->(∀x∈L,bs t.nodes x=18)->aG t.nodes lo L hi->(cY (dR (bu n)) c L).e=0->
  ∀p:ab,p.aa=t->dL p (cY (dR (bu n)) c L) lo hi->∀j:Nat,c.fn=(j:Int)->(∀b∈L,∀m,oa p j m c.vars b)/\(cY (dR (bu n)) c L).vars=c.vars
 |[],c,lo,hi,h,hc,hv,hs,hn,hl,hr,hch,he,p,hp,hA,j,hj=>⟨fun b hb=>by simp at hb,rfl⟩
 |a::L,c,lo,hi,h,hc,hv,hs,hn,hl,hr,hch,he,p,hp,hA,j,hj=>by
  have hsb:∀(q:Ck) b,bv q->q.e=0->Sv q (dR (bu n) q b):=fun q b hq _=>(oz (kK n) hq b).1
  have e0:=(nL hsb (a::L) c h).e0 he;unfold cY at he hA ⊢;rw[if_pos e0]at he hA ⊢;obtain⟨c1,c2,c3,c4,c5,c6⟩:=gZ hch;obtain⟨s,sv⟩:=oz (kK n) h a;have e1:=(nL hsb L _ s.inv).e0 he;have hra:=hr a jE;have r1:=yo ht (un ht n) c a lo h hc hv c1 c2 jB hra c5 e1;have r2:=yx ht (ud ht n) c a lo h hc hs c1 c2 jB hra c5 e1;have hr':∀x∈L,bs t.nodes x=18:=fun x hx=>hr x (by simp[hx])
  have k1:=(vD ht hsb (C:=fun k=>k=18) (n:=n) (fun q b l g1 g2 g3 _ g5 g6 g7 g8 g9 g10=>yo ht (un ht n) q b l g1 g2 g3 g5 g6 jB g8 g9 g10) L _ _ hi s.inv (s.aa.trans hc) r1.2 hn hl hr' c6 he).1;have k2:=(wN hsb (C:=fun k=>k=18) (n:=n) (fun q b l g1 g2 g3 _ g5 g6 g7 g8 g9 g10=>yx ht (ud ht n) q b l g1 g2 g3 g5 g6 jB g8 g9 g10) L _ _ hi s.inv (s.aa.trans hc) r2.2 hn hr' c6 he).1;have hI:=uI ht c6 hl;have k3:=vt (t:=t) (I:=fun k=>a.toNat+1<=k/\k<hi) (C:=fun k=>k=18) (fun d b hd hb hk=>Aj ht hI (ut ht hI n) d b hd hb hk) L (dR (bu n) c a) (s.aa.trans hc) fun x hx=>⟨⟨(c6.mem x hx).2.1,(c6.mem x hx).2.2.1⟩,hr' x hx⟩
  have w1:=Cf ht hst h hc hv hs c1 c2 jB hra c5 e1 hp (hA.sub jl jB fun k g1 g2=>⟨k1.tw k (.inl jB),k2.sw k (.inl jB),k3.out k (.inl jB)⟩) hj;obtain⟨w2,w3⟩:=E8 ht hst L _ (a.toNat+1) hi s.inv (s.aa.trans hc) r1.2 r2.2 hn hl hr' c6 he p hp (hA.sub jB jl fun k g1 g2=>⟨rfl,rfl,rfl⟩) j (s.fn.trans hj);rw[sv]at w2;refine⟨fun b hb=>?_,w3.trans sv⟩;rcases List.mem_cons.1 hb with rfl|hb
  ·exact w1
  ·exact w2 b hb
theorem FQ(c:Ck)(b:Bool)(a:Int):(c.aq b a).ap=c.ap:=by
 unfold Ck.aq;split
 ·rfl
 ·unfold Ck.aE;split<;>rfl
theorem sQ{vars:List bC}(h:(ai p a).kind≠10):nZ p a vars=vars:=if_neg h
theorem xm(ht:aH t){c0:Ck}{x:Int}(h:bv c0)(hc:c0.aa=t)(hv:bP c0)(hs:bX c0)(hn:a.toNat<=n)(hl:(nth t.nodes a.toNat).l=[x])(hx:dM (bs t.nodes x))(hch:aG t.nodes lo (nth t.nodes a.toNat).l a.toNat)(he:(ar n c0 x).1.e=0) :
  vC t lo a.toNat c0 (ar n c0 x).1/\nth (ar n c0 x).1.types x.toNat=(ar n c0 x).2/\lo<=x.toNat/\x.toNat<a.toNat/\∀{p:ab},p.aa=t->(nth t.nodes x.toNat).kind=21->dL p (ar n c0 x).1 lo a.toNat->pG p x:=by
 rw[hl]at hch;obtain⟨c1,c2,c3,c4,c5⟩:=je hch;rw[c4];obtain⟨r1,r2⟩:=Bp ht h hc hv hs c1 c2 jB hx c5 he;exact⟨r1,r2,c3,jB,fun hp hk hA=>Ih ht h hc hv hs c1 c2 jB hk c5 he hp hA⟩
theorem CW{t:ax}(ht:aH t):∀n,xf t n
 |0=>fun c a lo h hc hv hs e0 h0 h1 hn=>by omega
 |n+1=>fun c a lo h hc hv hs e0 h0 h1 hn hr hch he p hp hA j hj=>by
  have ih:=CW ht n;have hnode:(c.ac a).node a=nth t.nodes a.toNat:=by unfold Ck.node;show nth c.aa.nodes _=_;rw[hc]
  have sh:=(ht.shape a.toNat jB).1;have kd:∀i,(c.ac a).aw a i=nth (nth t.nodes a.toNat).l i:=fun i=>by unfold Ck.aw;rw[hnode]
  have hnd:ai p a=nth t.nodes a.toNat:=by unfold ai;rw[hp]
  have ndp:∀x:Int,ai p x=nth t.nodes x.toNat:=fun x=>by unfold ai;rw[hp]
  have ev:=pe c a;have h':=h.ev ev;have hc':=ev.aa.trans hc;have hv':=hv.ev ev;have hs':=hs.ev ev;have hlo:=hch.le;have hkr:(nth t.nodes a.toNat).kind=10\/(nth t.nodes a.toNat).kind=11\/(nth t.nodes a.toNat).kind=12\/(nth t.nodes a.toNat).kind=13\/(nth t.nodes a.toNat).kind=14\/(nth t.nodes a.toNat).kind=17\/(nth t.nodes a.toNat).kind=15\/(nth t.nodes a.toNat).kind=16:=by
   have:dv (nth t.nodes a.toNat).kind:=hr;unfold dv at this;omega
  have hsl:a.toNat<(c.ac a).slots.length:=by rw[h'.slots,hc'];omega
  have hfn:nth p.fn a.toNat=(j:Int):=by
   rw[(hA a.toNat hlo jB).2.2,<-hj];have hI:=uI ht (aG.j5 h0 h1 hch) jB;have fx:=GL ht hI (ut ht hI n) c a hc ⟨hlo,jB⟩ hr;rcases fx.at_ a.toNat with e|⟨_,e⟩
   ·rw[e]
    show nth (c.ap.set a.toNat c.fn) a.toNat=_;rw[oP,if_pos ⟨rfl,by rw[h.ap,hc];omega⟩]
   ·exact e
  rcases hkr with k|k|k|k|k|k|k
  ·have e:bu (n+1) c a=oj (ar n) (c.ac a) a:=by unfold bu;simp only;rw[hnode,k];rfl
   obtain⟨x,hl,hxr⟩:=sh.right jB;have hk0:(c.ac a).aw a 0=x:=by rw[kd,hl];rfl
   rw[e]at he hA ⊢;rw[sD]at he hA ⊢;have he:(dq (ar n) (c.ac a) a).e=0:=he;have hel:=vN (dp n) (c.ac a) a;obtain⟨_,q1⟩:=tM jC he;have q1:dq (ar n) (c.ac a) a=iB (ar n) (c.ac a) a:=q1;have heC:=he;rw[q1]at he;obtain⟨q3,q2⟩:=tM jC he;have q2:iB (ar n) (c.ac a) a=gg (ar n) (c.ac a) a:=q2;rw[q2]at he;unfold gg at he;rw[hk0]at he;obtain⟨b1,b2⟩:=gS he;obtain⟨r1,r2,r3,r4,r5⟩:=xm ht h' hc' hv' hs' jB hl hxr hch b2;have hty:(dq (ar n) (c.ac a) a).types=(ar n (c.ac a) x).1.types:=by rw[q1,q2];unfold gg;rw[hk0];exact jY _ _ _
   have hslt:(dq (ar n) (c.ac a) a).slots=(ar n (c.ac a) x).1.slots:=by rw[q1,q2];unfold gg;rw[hk0];exact(qI _ _ _).1
   have hA1:dL p (ar n (c.ac a) x).1 lo a.toNat:=hA.sub jl jB fun i g1 g2=>⟨by show nth (dq (ar n) (c.ac a) a).types i=_;rw[hty],by show nth (List.set _ _ _) i=_;rw[oP,jN,hslt],by show nth (dq (ar n) (c.ac a) a).ap i=_;rw[q1,q2];unfold gg;rw[hk0,FQ]⟩
   have hAx:=(hA1 x.toNat r3 r4).1;have hslC:a.toNat<(dq (ar n) (c.ac a) a).slots.length:=by rw[hel.slots];exact hsl
   have hAs:nth p.slots a.toNat=(dq (ar n) (c.ac a) a).size:=by
    rw[(hA a.toNat hlo jB).2.1];show nth (List.set _ _ _) _=_;rw[oP,if_pos ⟨rfl,hslC⟩]
   have hl0:nth (ai p a).l 0=x:=by rw[hnd,hl];rfl
   have hvars:(gg (ar n) (c.ac a) a).vars=c.vars:=(yC (dp n) (c.ac a) a).vars;refine⟨fun m=>⟨hfn,fun _ v hv1=>⟨?_,?_⟩,fun k'=>?_,fun k'=>?_,fun _ k'=>?_,fun k'=>?_,fun k'=>?_⟩,?_⟩
   ·have:=Ek q3 v (by rw[hvars];exact hv1)
    rw[hnd,<-hnode];exact this
   ·have:=hs.2 v hv1
    have hz:(dq (ar n) (c.ac a) a).size=c.size:=hel.size;rw[hAs,hz];omega
   ·rw[hnd]at k';omega
   ·rw[hnd]at k';omega
   ·rw[hl0]at k' ⊢
    rw[ndp]at k';exact r5 hp k' hA1
   ·rw[hnd]at k';omega
   ·rw[hnd]at k';omega
   ·show(dq (ar n) (c.ac a) a).vars++[(⟨((c.ac a).node a).name,(ar n (c.ac a) ((c.ac a).aw a 0)).2,(dq (ar n) (c.ac a) a).size⟩:bC)]=nZ p a c.vars
    unfold nZ Gl;rw[if_pos (by rw[hnd];exact k),hk0,<-hAs,hl0,hAx,r2,hnode,hnd,q1,q2,hvars]
  ·have e:bu (n+1) c a=(ar n ((c.ac a).named a).1 ((c.ac a).aw a 0)).1.aq (decide (((c.ac a).named a).2=(ar n ((c.ac a).named a).1 ((c.ac a).aw a 0)).2)) a:=by unfold bu;simp only;rw[hnode,k];rfl
   obtain⟨x,hl,hxr⟩:=sh.right jB;have hk0:(c.ac a).aw a 0=x:=by rw[kd,hl];rfl
   rw[e]at he hA ⊢;rw[hk0]at he hA ⊢;obtain⟨b1,b2⟩:=gS he;have en:=l8 (c.ac a) a;obtain⟨r1,r2,r3,r4,r5⟩:=xm ht (h'.ev en) (en.aa.trans hc') (hv'.ev en) (hs'.ev en) jB hl hxr hch b2;have hA1:dL p (ar n ((c.ac a).named a).1 x).1 lo (a.toNat+1):=hA.sub jl jl fun i _ _=>⟨by rw[jY],by rw[(qI _ _ _).1],by rw[FQ]⟩
   have hAx:=(hA1 x.toNat r3 jB).1;obtain⟨v,v1,v2,v3,v4⟩:=DW (c':=(ar n ((c.ac a).named a).1 x).1) hsl ((dp n _ x).e0 b2) (hA1 a.toNat hlo jB).2.1 (r1.out a.toNat (.inr jl)).2.1;have hl0:nth (ai p a).l 0=x:=by rw[hnd,hl];rfl
   refine⟨fun m=>⟨hfn,fun k'=>?_,fun _=>⟨v,v1,?_,v3,?_⟩,fun k'=>?_,fun _ k'=>?_,fun k'=>?_,fun k'=>?_⟩,?_⟩
   ·rw[hnd]at k';omega
   ·rw[v2,hnode,hnd]
   ·rw[v4,hl0,hAx,r2];exact of_decide_eq_true b1
   ·rw[hnd]at k';omega
   ·rw[hl0]at k' ⊢
    rw[ndp]at k';exact r5 hp k' (hA1.sub jl jB fun _ _ _=>⟨rfl,rfl,rfl⟩)
   ·rw[hnd]at k';omega
   ·rw[hnd]at k';omega
   ·rw[sQ (by rw[hnd];omega)]
    exact((((ev.trans en).trans (dp n _ x)).trans (ir _ _ _)).vars)
  ·have e:bu (n+1) c a=(ar n (ar n ((c.ac a).named a).1 ((c.ac a).aw a 0)).1 ((c.ac a).aw a 1)).1.aq (decide (((c.ac a).named a).2=4) && decide ((ar n ((c.ac a).named a).1 ((c.ac a).aw a 0)).2=1) && decide ((ar n (ar n ((c.ac a).named a).1 ((c.ac a).aw a 0)).1 ((c.ac a).aw a 1)).2=1)) a:=by unfold bu;simp only;rw[hnode,k];rfl
   obtain⟨x,y,hl,hxe,hye⟩:=sh.two jB;have hk0:(c.ac a).aw a 0=x:=by rw[kd,hl];rfl
   have hk1:(c.ac a).aw a 1=y:=by rw[kd,hl];rfl
   rw[e]at he hA ⊢;rw[hk0,hk1]at he hA ⊢;obtain⟨b1,b2⟩:=gS he;have en:=l8 (c.ac a) a;have r1:=EV ht (h'.ev en) (en.aa.trans hc') (hs'.ev en) jB hl hxe hye hch b2;obtain⟨v,v1,v2,v3,v4⟩:=DW (p:=p) (c':=(ar n (ar n ((c.ac a).named a).1 x).1 y).1) hsl ((dp n _ x).e0 ((dp n _ y).e0 b2)) (by rw[(hA a.toNat hlo jB).2.1,(qI _ _ _).1]) (r1.sw a.toNat (.inr jl));rw[Bool.and_eq_true,Bool.and_eq_true]at b1;refine⟨fun m=>⟨hfn,fun k'=>?_,fun k'=>?_,fun _=>⟨v,v1,?_,v3,?_⟩,fun k'=>?_,fun k'=>?_,fun k'=>?_⟩,?_⟩
   ·rw[hnd]at k';omega
   ·rw[hnd]at k';omega
   ·rw[v2,hnode,hnd]
   ·rw[v4];exact of_decide_eq_true b1.1.1
   ·rw[hnd]at k';omega
   ·rw[hnd]at k';omega
   ·rw[hnd]at k';omega
   ·rw[sQ (by rw[hnd];omega)]
    exact(((((ev.trans en).trans (dp n _ x)).trans (dp n _ y)).trans (ir _ _ _)).vars)
  ·have e:bu (n+1) c a=(ar n (c.ac a) ((c.ac a).aw a 0)).1:=by unfold bu;simp only;rw[hnode,k];rfl
   obtain⟨x,hl,hxk⟩:=sh.mR k;have hk0:(c.ac a).aw a 0=x:=by rw[kd,hl];rfl
   rw[e]at he hA ⊢;rw[hk0]at he hA ⊢;obtain⟨r1,r2,r3,r4,r5⟩:=xm ht h' hc' hv' hs' jB hl (by rw[hxk];unfold dM;omega) hch he;have hl0:nth (ai p a).l 0=x:=by rw[hnd,hl];rfl
   refine⟨fun m=>⟨hfn,fun k'=>?_,fun k'=>?_,fun k'=>?_,fun _ k'=>?_,fun k'=>?_,fun k'=>?_⟩,?_⟩
   ·rw[hnd]at k';omega
   ·rw[hnd]at k';omega
   ·rw[hnd]at k';omega
   ·rw[hl0]at k' ⊢
    rw[ndp]at k';exact r5 hp k' (hA.sub jl jB fun _ _ _=>⟨rfl,rfl,rfl⟩)
   ·rw[hnd]at k';omega
   ·rw[hnd]at k';omega
   ·rw[sQ (by rw[hnd];omega)]
    exact(ev.trans (dp n _ x)).vars
  ·have e:bu (n+1) c a=(ar n (c.ac a) ((c.ac a).aw a 0)).1.aq (!decide ((ar n (c.ac a) ((c.ac a).aw a 0)).2=4)) a:=by unfold bu;simp only;rw[hnode,k];rfl
   rw[e];refine⟨fun m=>⟨hfn,fun k'=>?_,fun k'=>?_,fun k'=>?_,fun k'=>?_,fun k'=>?_,fun k'=>?_⟩,?_⟩
   ·rw[hnd]at k';omega
   ·rw[hnd]at k';omega
   ·rw[hnd]at k';omega
   ·rw[hnd]at k';omega
   ·rw[hnd]at k';omega
   ·rw[hnd]at k';omega
   ·rw[sQ (by rw[hnd];omega)]
    exact((ev.trans (dp n _ _)).trans (ir _ _ _)).vars
  ·have e:bu (n+1) c a=jw (ar n) (c.ac a) a:=by unfold bu;simp only;rw[hnode,k];rfl
   rw[e]at he hA ⊢;unfold jw at he hA ⊢;rw[hnode]at he hA ⊢;simp only at he hA ⊢;split at he
   ·exact(lJ jC he).elim
   rename_i hf;rw[if_neg hf]at hA ⊢;have hft:(nth (c.ac a).aa.ap (c.ac a).fn.toNat).ret=(nth p.aa.ap j).ret:=by
    show(nth c.aa.ap c.fn.toNat).ret=_;rw[hc,hj,hp];rfl
   rw[hft]at hf he hA ⊢;rcases sh.ret k with hl|⟨x,hl,hxe⟩
   ·rw[hl]at hf ⊢
    rw[if_neg jC];have hz:(nth p.aa.ap j).ret=0:=by
     have hf:=Classical.not_not.1 hf;rw[show decide (([]:List Int).length=1)=false from rfl]at hf;exact Classical.byContradiction fun hne=>by rw[decide_eq_false hne]at hf;cases hf
    refine⟨fun m=>⟨hfn,fun k'=>?_,fun k'=>?_,fun k'=>?_,fun k'=>?_,fun _=>⟨fun k'=>?_,fun _=>hz⟩,fun k'=>?_⟩,?_⟩
    ·rw[hnd]at k';omega
    ·rw[hnd]at k';omega
    ·rw[hnd]at k';omega
    ·rw[hnd]at k';omega
    ·rw[hnd,hl]at k';cases k'
    ·rw[hnd]at k';omega
    ·rw[sQ (by rw[hnd];omega)];exact ev.vars
   ·have hk0:(c.ac a).aw a 0=x:=by rw[kd,hl];rfl
    have hl1:(nth t.nodes a.toNat).l.length=1:=by rw[hl];rfl
    rw[if_pos hl1]at he hA ⊢;rw[hk0]at he hA ⊢;obtain⟨b1,b2⟩:=gS he;obtain⟨r1,r2,r3,r4,r5⟩:=xm ht h' hc' hv' hs' jB hl (.inl hxe) hch b2;have hl0:nth (ai p a).l 0=x:=by rw[hnd,hl];rfl
    refine⟨fun m=>⟨hfn,fun k'=>?_,fun k'=>?_,fun k'=>?_,fun k'=>?_,fun _=>⟨fun _=>?_,fun k'=>?_⟩,fun k'=>?_⟩,?_⟩
    ·rw[hnd]at k';omega
    ·rw[hnd]at k';omega
    ·rw[hnd]at k';omega
    ·rw[hnd]at k';omega
    ·rw[hl0,(hA x.toNat r3 jB).1,jY,r2];exact of_decide_eq_true b1
    ·rw[hnd,hl]at k';exact(k' rfl).elim
    ·rw[hnd]at k';omega
    ·rw[sQ (by rw[hnd];omega)]
     exact((ev.trans (dp n _ x)).trans (ir _ _ _)).vars
  ·have e:bu (n+1) c a=cY (dR (bu n)) ((ar n (c.ac a) ((c.ac a).aw a 0)).1.aq (decide ((ar n (c.ac a) ((c.ac a).aw a 0)).2=2)) a) (((c.ac a).node a).l.drop 1):=by
    unfold bu;simp only;rw[hnode];rcases k with k|k<;>rw[k]<;>rfl
   have hsh:∃x L,(nth t.nodes a.toNat).l=x::L/\bO (bs t.nodes x)/\∀y∈L,bs t.nodes y=18:=by
    rcases k with k|k
    ·obtain⟨x,y,hx,hy,hl|⟨z,hl,hz⟩⟩:=sh.kg k
     ·exact⟨x,[y],hl,hx,fun u hu=>by rw[List.mem_singleton.1 hu];exact hy⟩
     ·exact⟨x,[y,z],hl,hx,fun u hu=>by
       rcases List.mem_cons.1 hu with rfl|hu
       ·exact hy
       ·rw[List.mem_singleton.1 hu];exact hz⟩
    ·obtain⟨x,y,hl,hx,hy⟩:=sh.dK k
     exact⟨x,[y],hl,hx,fun u hu=>by rw[List.mem_singleton.1 hu];exact hy⟩
   obtain⟨x,L,hl,hxe,hL⟩:=hsh;have hk0:(c.ac a).aw a 0=x:=by rw[kd,hl];rfl
   rw[e]at he hA ⊢;rw[hnode,hl,hk0]at he hA ⊢;have he:(cY (dR (bu n)) ((ar n (c.ac a) x).1.aq (decide ((ar n (c.ac a) x).2=2)) a) L).e=0:=he;have hA:dL p (cY (dR (bu n)) ((ar n (c.ac a) x).1.aq (decide ((ar n (c.ac a) x).2=2)) a) L) lo (a.toNat+1):=hA;have ex:=(dp n (c.ac a) x).trans (ir _ (decide ((ar n (c.ac a) x).2=2)) a);have hin:=h'.ev ex;rw[hl]at hch;obtain⟨c1,c2,c3,c4,c5,c6⟩:=gZ hch;obtain⟨w1,w2⟩:=E8 ht ih L _ (x.toNat+1) a.toNat hin (ex.aa.trans hc') (hv'.ev ex) (hs'.ev ex) jB jB hL c6 he p hp (hA.sub jB jB fun _ _ _=>⟨rfl,rfl,rfl⟩) j (ex.fn.trans hj);rw[ex.vars]at w1 w2;refine⟨fun m=>⟨hfn,fun k'=>?_,fun k'=>?_,fun k'=>?_,fun k'=>?_,fun k'=>?_,fun _ b hb=>?_⟩,?_⟩
   ·rw[hnd]at k';omega
   ·rw[hnd]at k';omega
   ·rw[hnd]at k';omega
   ·rw[hnd]at k';omega
   ·rw[hnd]at k';omega
   ·rw[hnd,hl]at hb;exact w1 b hb m
   ·rw[sQ (by rw[hnd];omega)];exact w2
theorem Dm(body:Int):∀(ps:List bD) (c:Ck) (i:Int),(∀v∈c.vars,v.slot<i)->pE c.vars->(dD body c ps i).e=0->(dD body c ps i).vars=c.vars++my ps i/\pE (dD body c ps i).vars/\c.e=0
 |[],c,i,hs,hv,he=>by unfold dD at he ⊢;exact⟨by simp[my],hv,he⟩
 |p::ps,c,i,hs,hv,he=>by
  unfold dD at he ⊢;simp only at he ⊢;have fin:∀c1:Ck,c1.vars=c.vars->(dD body (jS c1 ⟨p.name,p.ty,i⟩) ps (i+1)).e=0->((c1.e=0)->∀v∈c.vars,v.name≠p.name)->(dD body (jS c1 ⟨p.name,p.ty,i⟩) ps (i+1)).vars=c.vars++my (p::ps) i/\pE (dD body (jS c1 ⟨p.name,p.ty,i⟩) ps (i+1)).vars/\c1.e=0:=fun c1 e1 he1 hn=>by
   have hz:c1.e=0:=by
    have key:∀(ps:List bD) (c:Ck) (i:Int),(dD body c ps i).e=0->c.e=0:=fun ps=>by
     induction ps with
     |nil=>intro c i h;unfold dD at h;exact h
     |cons q ps ih=>
      intro c i h;unfold dD at h;simp only at h;have h:=ih _ _ h;have h:(if 0<=c.find q.name then c.aE 41 body else c).e=0:=h;split at h
      ·exact(lJ jC h).elim
      ·exact h
    exact key ps (jS c1 ⟨p.name,p.ty,i⟩) _ he1
   have hv1:(jS c1 ⟨p.name,p.ty,i⟩).vars=c.vars++[⟨p.name,p.ty,i⟩]:=by show c1.vars++_=_;rw[e1]
   obtain⟨g1,g2,_⟩:=Dm body ps (jS c1 ⟨p.name,p.ty,i⟩) (i+1) (fun v hv=>by
    rw[hv1]at hv;rcases List.mem_append.1 hv with hv|hv
    ·have:=hs v hv;omega
    ·rw[List.mem_singleton.1 hv];show i<i+1;omega) (by
     rw[hv1];refine List.pairwise_append.2 ⟨hv,jE,fun v hv w hw=>?_⟩;rw[List.mem_singleton.1 hw];refine⟨hn hz v hv,?_⟩;have:=hs v hv;show v.slot≠i;omega) he1
   refine⟨?_,g2,hz⟩;rw[g1,hv1,List.append_assoc];rfl
  split at he
  ·exfalso
   obtain⟨_,_,h3⟩:=fin (c.aE 41 body) (mj c jC body).vars he (fun h=>(lJ jC h).elim);exact lJ jC h3
  ·rename_i hf
   rw[if_neg hf];exact fin c rfl he fun _=>Ek hf
theorem LH(ht:aH t){c:Ck}(h:fa c)(hc:c.aa=t){k:Nat}(hk:k<t.ap.length)(hsz:c.aM.length<6)(hch:aG t.nodes lo (nth t.nodes (nth t.ap k).body.toNat).l (nth t.ap k).body.toNat)(he:(ff c k).e=0)(hp:p.aa=t)(hA:dL p (ff c k) lo ((nth t.ap k).body.toNat+1)):pm p k:=by
 have hk':k<c.aa.ap.length:=by rw[hc];exact hk
 have hp3:=h.aa.fn _ (dx hk');have hi0:bv { c with fn:=(k:Int),vars:=[],more:=[],size:=0 }:=⟨h.aa,h.types,h.slots,h.ap,by show c.aM.length<=6;omega,by show(0:Int)<=k;omega,by show(k:Int)<(c.aa.ap.length:Int);omega,by show((0:Nat):Int)<=0;omega,by show(0:Int)<=25;omega,fun _=>by show(0:Int)<=24;omega⟩;obtain⟨a,b,d⟩:=wi (nth c.aa.ap k).body (nth c.aa.ap k).params _ 0 hi0 (by show(0:Int)+_<=20;omega);obtain⟨a',b',d'⟩:=zJ (nth c.aa.ap k).body (nth c.aa.ap k).params { c with fn:=(k:Int),vars:=[],more:=[],size:=0 } 0 ⟨by show(0:Int)<=0;omega,fun v hv=>by simp at hv⟩ rfl;obtain⟨a2,b2,d2⟩:=Ad (t:=t) (nth c.aa.ap k).body (nth c.aa.ap k).params { c with fn:=(k:Int),vars:=[],more:=[],size:=0 } 0 (fun v hv=>by simp at hv) hp3.1.ps;have w:=Dm (nth c.aa.ap k).body (nth c.aa.ap k).params { c with fn:=(k:Int),vars:=[],more:=[],size:=0 } 0 (fun v hv=>by simp at hv) List.Pairwise.nil;have hbN:=ot ht hk;have hbk:=ht.body _ (dx hk);have hfn:(dD (nth c.aa.ap k).body { c with fn:=(k:Int),vars:=[],more:=[],size:=0 } (nth c.aa.ap k).params 0).fn=(k:Int):=by
  have key:∀(ps:List bD) (c:Ck) (i:Int),(dD (nth t.ap k).body c ps i).fn=c.fn:=fun ps=>by
   induction ps with
   |nil=>intro c i;rfl
   |cons q ps ih=>
    intro c i;unfold dD;simp only;rw[ih];show(if 0<=c.find q.name then c.aE 41 _ else c).fn=c.fn;split
    ·exact(mj c jC _).fn
    ·rfl
  rw[hc];exact key _ _ _
 unfold ff at he hA;simp only at he hA;rw[hc]at he hA;rw[hc]at a b d a' b' d' a2 b2 d2 w hfn;split at he
 ·rename_i e1
  rw[if_pos e1]at hA;obtain⟨w1,w2,_⟩:=w e1;have w1:_=my (nth t.ap k).params 0:=w1;refine⟨?_,fun m=>?_⟩
  ·rw[hp,<-w1];exact w2
  ·have:=Cf ht (CW ht t.nodes.length) a (b.trans (by rfl)) a2 a' hbN.1 hbN.2 (by have:=hbN.2;have:=hbN.1;omega) hbk hch he hp (hA.sub jl jl fun _ _ _=>⟨rfl,rfl,rfl⟩) hfn m
   rw[w1]at this;rw[hp];exact this
 ·rename_i e1
  exact(e1 he).elim
theorem Gt{t:ax}(ht:aH t):∀(n i lo:Nat) (c:Ck),fa c->c.aa=t->c.aM.length=i->i+n=t.ap.length->aG t.nodes lo ((t.ap.drop i).map (·.body)) t.nodes.length->(fj c i n).e=0->∀q,q<lo->nth (fj c i n).slots q=nth c.slots q/\nth (fj c i n).ap q=nth c.ap q
 |0,i,lo,c,h,hc,hs,hi,hch,he=>fun q hq=>⟨rfl,rfl⟩
 |n+1,i,lo,c,h,hc,hs,hi,hch,he=>by
  have h6:=ht.ap;unfold fj at he ⊢;by_cases e0:c.e=0
  ·rw[if_pos e0]at he ⊢
   have hk:i<t.ap.length:=jB
   rw[kP hk]at hch;obtain⟨c1,c2,c3,c4,c5,c6⟩:=gZ (a:=(nth t.ap i).body) hch;obtain⟨f1,f2,f3⟩:=wQ h (by rw[hc];exact hk) (by omega:c.aM.length<6);have e1:(ff c i).e=0:=by
    cases n with
    |zero=>unfold fj at he;exact he
    |succ m=>
     unfold fj at he;split at he
     ·assumption
     ·exact he
   have r:=(DL ht h hc hk jB c5 e1).1;have r':=PZ ht hc hk c5;intro q hq;have ih:=Gt ht n (i+1) ((nth t.ap i).body.toNat+1) (ff c i) f1 (f2.trans hc) jB jB c6 he q jB;exact⟨ih.1.trans (r q (.inl hq)),ih.2.trans (r' q (.inl hq))⟩
  ·rw[if_neg e0]at he
   exact(e0 he).elim
theorem E6{t:ax}(ht:aH t):∀(n i lo:Nat) (c:Ck),fa c->c.aa=t->c.aM.length=i->i+n=t.ap.length->aG t.nodes lo ((t.ap.drop i).map (·.body)) t.nodes.length->(fj c i n).e=0->
  ∀p:ab,p.aa=t->dL p (fj c i n) lo t.nodes.length->∀j,i<=j->j<t.ap.length->pm p j
 |0,i,lo,c,h,hc,hs,hi,hch,he,p,hp,hA=>fun j h1 h2=>by omega
 |n+1,i,lo,c,h,hc,hs,hi,hch,he,p,hp,hA=>by
  have h6:=ht.ap;unfold fj at he hA;by_cases e0:c.e=0
  ·rw[if_pos e0]at he hA
   have hk:i<t.ap.length:=jB
   rw[kP hk]at hch;obtain⟨c1,c2,c3,c4,c5,c6⟩:=gZ (a:=(nth t.ap i).body) hch;obtain⟨f1,f2,f3⟩:=wQ h (by rw[hc];exact hk) (by omega:c.aM.length<6);have e1:(ff c i).e=0:=by
    cases n with
    |zero=>unfold fj at he;exact he
    |succ m=>
     unfold fj at he;split at he
     ·assumption
     ·exact he
   obtain⟨r2,q1,q2,q3⟩:=wh ht n (i+1) ((nth t.ap i).body.toNat+1) (ff c i) f1 (f2.trans hc) jB jB c6 he;have r3:=Gt ht n (i+1) ((nth t.ap i).body.toNat+1) (ff c i) f1 (f2.trans hc) jB jB c6 he;intro j h1 h2;by_cases hj:j=i
   ·subst hj
    exact LH ht h hc hk jB c5 e1 hp (hA.sub jl jB fun q g1 g2=>⟨r2.tw q (.inl jB),(r3 q jB).1,(r3 q jB).2⟩)
   ·exact E6 ht n (i+1) ((nth t.ap i).body.toNat+1) (ff c i) f1 (f2.trans hc) jB jB c6 he p hp (hA.sub jB jl fun _ _ _=>⟨rfl,rfl,rfl⟩) j jB h2
  ·rw[if_neg e0]at he
   exact(e0 he).elim
theorem IM(ht:aH t)(he:(gC t).2.2=0):∀j,j<(gC t).1.aa.ap.length->pm (gC t).1 j:=by
 unfold gC at he ⊢;split at he
 ·rename_i h;exact(h he).elim
 rename_i h;rw[if_neg h];have h:(gU t).e=0:=jB
 obtain⟨i1,i2,i3⟩:=Bg ht;obtain⟨_,q1,_⟩:=wh ht t.ap.length 0 0 (iN (iY t)) i1 i2 (by rw[i3];rfl) jB (by rw[List.drop_zero];exact ht.chain) h;have he:(gU t).aa=t:=q1;intro j hj;have hj:j<t.ap.length:=by rw[<-he];exact hj
 exact E6 ht t.ap.length 0 0 (iN (iY t)) i1 i2 (by rw[i3];rfl) jB (by rw[List.drop_zero];exact ht.chain) h (gU t).prog he (fun _ _ _=>⟨rfl,rfl,rfl⟩) j (Nat.zero_le _) hj
theorem OC{s:ByteArray}(he:(ga s).2.2=0):∀j,j<(ga s).1.aa.ap.length->pm (ga s).1 j:=by
 unfold ga at he ⊢;split at he
 ·rename_i h;exact(h he).elim
 rename_i h;rw[if_neg h];have h:(gu s).2.2=0:=jB
 simp only at he ⊢;split at he
 ·cases he
 rename_i h2;split at he
 ·rename_i h3;exact(h3 he).elim
 rename_i h3;rw[if_neg h2,if_neg h3];exact IM (vE h) jB
end Go.Proofs.YtfkgcobaheegbaaGreatDoor
namespace Go.Gd
open Go
def oA(p:ab):List bC->List aZ->List bC
 |vars,[]=>vars
 |vars,x::l=>oA p (mW p ((dm p x.block).take x.at_.toNat) vars) l
theorem rF(p:ab):∀(l m:List aZ) (vars:List bC),oA p vars (l++m)=oA p (oA p vars l) m
 |[],_,_=>rfl
 |x::l,m,vars=>rF p l m _
def pd(p:ab)(x:aZ)(b:Int):Prop:=∃i:Nat,((i:Int)=x.at_\/(i:Int)+1=x.at_)/\i<(dm p x.block).length/\((ai p (nth (dm p x.block) i)).kind=15\/(ai p (nth (dm p x.block) i)).kind=16)/\b∈(ai p (nth (dm p x.block) i)).l.drop 1
def pX(p:ab):(Int->Prop)->List aZ->Prop
 |_,[]=>True
 |q,x::l=>q x.block/\pX p (pd p x) l
def BO(p:ab):(Int->Prop)->List aZ->Int->Prop
 |q,[]=>q
 |_,x::l=>BO p (pd p x) l
theorem tg(p:ab):∀(l m:List aZ) (q:Int->Prop),pX p q (l++m)<->pX p q l/\pX p (BO p q l) m
 |[],m,q=>⟨fun h=>⟨trivial,h⟩,fun h=>h.2⟩
 |x::l,m,q=>by
  show(_/\pX p (pd p x) (l++m))<->(_/\_)/\_;rw[tg p l m (pd p x)];exact⟨fun⟨a,b,c⟩=>⟨⟨a,b⟩,c⟩,fun⟨⟨a,b⟩,c⟩=>⟨a,b,c⟩⟩
theorem Co(p:ab):∀(l:List aZ) (x:aZ) (q:Int->Prop),BO p q (l++[x])=pd p x
 |[],_,_=>rfl
 |y::l,x,q=>Co p l x (pd p y)
variable{p:ab}{vars:List bC}
theorem zn{a:Int}(h:(ai p a).kind≠10):nZ p a vars=vars:=if_neg h
theorem wz{α:Type}[Inhabited α](l:List α)(i:Nat)(h:i<l.length):l.take (i+1)=l.take i++[nth l i]:=by
 rw[List.take_succ,List.getElem?_eq_getElem h,dN h];rfl
theorem IP{x:aZ}{i:Nat}(h:(i:Int)=x.at_\/(i:Int)+1=x.at_)(hi:i<(dm p x.block).length)(hk:(ai p (nth (dm p x.block) i)).kind=15\/(ai p (nth (dm p x.block) i)).kind=16)(vars:List bC):mW p ((dm p x.block).take x.at_.toNat) vars=mW p ((dm p x.block).take i) vars:=by
 rcases h with h|h
 ·rw[<-h,Int.toNat_natCast]
 ·rw[<-h,show((i:Int)+1).toNat=i+1 from jB,wz _ _ hi,A3]
  exact zn jB
theorem BW{s:List bC->Int->Prop}{p:ab}:∀(L:List Int) (vars:List bC),uN s p vars L->∀i,i<L.length->s (mW p (L.take i) vars) (nth L i)
 |[],_,_,i,hi=>by simp at hi
 |x::L,vars,h,0,_=>h.1
 |x::L,vars,h,i+1,hi=>BW L _ h.2 i (by simpa using hi)
theorem G8{j:Nat}{x:aZ}{b:Int}(h:∀m,oa p j m vars x.block)(k:pd p x b):∀m,oa p j m (mW p ((dm p x.block).take x.at_.toNat) vars) b:=fun m=>by
 obtain⟨i,h1,h2,h3,h4⟩:=k;have:=BW _ _ (h (m+1)) i h2;rw[IP h1 h2 h3];exact this.kids h3 b h4
theorem Cx{p:ab}{j:Nat}:∀(l:List aZ) (q:Int->Prop) (vars:List bC) (x:aZ),pX p q (l++[x])->(∀b,q b->∀m,oa p j m vars b)->∀m,oa p j m (oA p vars l) x.block
 |[],q,vars,x,h,hq=>hq _ h.1
 |y::l,q,vars,x,h,hq=>Cx l (pd p y) _ x h.2 fun b hb=>G8 (hq _ h.1) hb
theorem Jf{x:Int}(hv:pE vars)(h:(ai p x).kind=10->∀v∈vars,v.name≠(ai p x).name/\v.slot≠nth p.slots x.toNat):pE (nZ p x vars):=by
 unfold nZ;split
 ·rename_i k
  refine List.pairwise_append.2 ⟨hv,jE,fun v hv w hw=>?_⟩;rw[List.mem_singleton.1 hw];exact h k v hv
 ·exact hv
theorem De{p:ab}{j m:Nat}:∀(L:List Int) (vars:List bC),uN (wI p j (oa p j m)) p vars L->pE vars->∀i,pE (mW p (L.take i) vars)
 |[],vars,_,hv,i=>by rw[List.take_nil];exact hv
 |x::L,vars,h,hv,0=>hv
 |x::L,vars,h,hv,i+1=>De L _ h.2 (Jf hv h.1.oW) i
theorem Ec{p:ab}{j:Nat}:∀(l:List aZ) (q:Int->Prop) (vars:List bC),pX p q l->(∀b,q b->∀m,oa p j m vars b)->pE vars->pE (oA p vars l)
 |[],q,vars,_,_,hv=>hv
 |x::l,q,vars,h,hq,hv=>Ec l (pd p x) _ h.2 (fun b hb=>G8 (hq _ h.1) hb) (De (m:=0) _ _ (hq _ h.1 1) hv _)
theorem Jl{x:Int}{v:bC}(h:v∈vars):v∈nZ p x vars:=by
 unfold nZ;split
 ·exact List.mem_append_left _ h
 ·exact h
theorem GD{p:ab}{v:bC}:∀(L:List Int) (vars:List bC),v∈vars->v∈mW p L vars
 |[],_,h=>h
 |x::L,vars,h=>GD L _ (Jl h)
-- where a node is found
def bS(p:ab)(f:aI):Int:=nth (dm p f.pl.block) f.pl.at_.toNat
def jZ(p:ab)(f:aI):List bC:=oA p (my (nth p.aa.ap f.fn.toNat).params 0) f.path
structure nQ(N:Int)(t:Int)(w:ak):Prop where
 ty:w.ty=t
 xX:jU w=true
 oZ:w.ty=4->w.n<=N
theorem KN{w:ak}(h:jU w=true):1<=w.ty/\w.ty<=4:=by
 unfold jU at h;split at h
 ·omega
 split at h
 ·omega
 split at h
 ·omega
 split at h
 ·omega
 ·cases h
theorem wK{t:Int}(h:1<=t/\t<=4):jU (vZ t)=true:=by
 have:t=1\/t=2\/t=3\/t=4:=jB
 rcases this with rfl|rfl|rfl|rfl<;>decide
theorem kG{f:aI}(h:f.path≠[]):f.path=f.path.take (f.path.length-1)++[f.pl]:=by
 have hl:=List.length_pos_iff.2 h;have:=wz f.path (f.path.length-1) jB;rw[show f.path.length-1+1=f.path.length from jB,List.take_length]at this;exact this
theorem nT{f:aI}(h:f.path≠[]):(fz f).path=f.path.take (f.path.length-1)++[⟨f.pl.block,f.pl.at_+1⟩]:=by
 have hl:=List.length_pos_iff.2 h;show f.path.set (f.path.length-1) _=_;have:∀(l:List aZ) (x:aZ),0<l.length->l.set (l.length-1) x=l.take (l.length-1)++[x]:=fun l x hl=>by
  apply List.ext_getElem
  ·simp;omega
  ·intro i h1 h2
   rw[List.getElem_set,List.getElem_append];simp at h1;split
   ·rename_i e;rw[dif_neg jF];simp
   ·rename_i e;rw[dif_pos jF];simp
 exact this _ _ hl
def AK(p:ab)(f:aI)(g:Int):Prop:=((ai p (bS p f)).kind=10\/(ai p (bS p f)).kind=11\/(ai p (bS p f)).kind=13)/\(ai p (nth (ai p (bS p f)).l 0)).kind=21/\uO p (nth (ai p (bS p f)).l 0)=g
end Go.Gd
namespace Go.Proofs.YtfkgcobaheegbaaGreatDoor
open Go Go.Gd
structure iC(p:ab)(N:Int)(f:aI):Prop where
 mD:pX p (fun b=>b=(nth p.aa.ap f.fn.toNat).body) f.path
 ue:∀v∈jZ p f,0<=v.slot/\v.slot<f.slots.length/\(nth f.slots v.slot.toNat).ty=v.ty/\jU (nth f.slots v.slot.toNat)=true
 oZ:∀w∈f.slots,w.ty=4->w.n<=N
structure iH(p:ab):Prop where
 ok:dT p
 fn:∀j,j<p.aa.ap.length->pm p j
theorem DF{s:ByteArray}(he:(ga s).2.2=0):iH (ga s).1:=⟨AY he,OC he⟩
variable{p:ab}{f:aI}{N:Int}
theorem sK(hw:iH p)(h:dc p f)(t:iC p N f)(hb:lH p f):(∀m,wI p f.fn.toNat (oa p f.fn.toNat m) (jZ p f) (bS p f))/\pE (jZ p f):=by
 have f0:=h.f0;have f1:=h.f1;have hF:=hw.fn f.fn.toNat jB;have hx:=h.pl _ (lI hb.1);have ha0:=hx.a0;have hb2:=hb.2;refine⟨fun m=>?_,Ec _ _ _ t.mD (fun b e m=>by subst e;exact hF.body m) hF.env⟩;have hn:=t.mD;rw[kG hb.1]at hn;have:=Cx _ _ _ _ hn (fun b e m=>by subst e;exact hF.body m) (m+1);have:=BW _ _ this f.pl.at_.toNat (by show _<(dm p f.pl.block).length;omega);have e:jZ p f=mW p ((dm p f.pl.block).take f.pl.at_.toNat) (oA p (my (nth p.aa.ap f.fn.toNat).params 0) (f.path.take (f.path.length-1))):=by
  unfold jZ;rw[kG hb.1,rF,<-kG hb.1];rfl
 rw[e];exact this
theorem iC.on(h:dc p f)(t:iC p N f)(hb:lH p f)(hk:(ai p (bS p f)).kind≠10):iC p N (fz f):=by
 have ha0:=(h.pl _ (lI hb.1)).a0;have hb2:=hb.2;have e:jZ p (fz f)=jZ p f:=by
  have e1:jZ p f=mW p ((dm p f.pl.block).take f.pl.at_.toNat) (oA p (my (nth p.aa.ap f.fn.toNat).params 0) (f.path.take (f.path.length-1))):=by
   unfold jZ;rw[kG hb.1,rF,<-kG hb.1];rfl
  rw[e1];unfold jZ;rw[nT hb.1,rF];show mW p ((dm p f.pl.block).take (f.pl.at_+1).toNat) _=_;rw[show(f.pl.at_+1).toNat=f.pl.at_.toNat+1 from jB,wz _ _ jB,A3];exact zn hk
 refine⟨?_,by rw[e];exact t.ue,t.oZ⟩;have hn:=t.mD;rw[kG hb.1,tg]at hn;rw[nT hb.1,tg];exact⟨hn.1,hn.2.1,trivial⟩
theorem O3{α:Type}{l:List α}{i:Nat}{x y:α}(h:x∈l.set i y):x=y\/x∈l:=by
 rcases List.mem_or_eq_of_mem_set h with h|h
 ·exact .inr h
 ·exact .inl h
theorem iC.store(hw:iH p)(h:dc p f)(t:iC p N f)(hb:lH p f)(hx:kU p (bS p f)){w:ak}(hv:nQ N (nth p.types (nth (ai p (bS p f)).l 0).toNat) w):iC p N (fz { f with slots:=f.slots.set (nth p.slots (bS p f).toNat).toNat w }):=by
 have ha0:=(h.pl _ (lI hb.1)).a0;have hb2:=hb.2;have f0:=h.f0;have f1:=h.f1;obtain⟨sw,hE⟩:=sK hw h t hb;have sw:=sw 0;have hX:=h.pl _ (lI hb.1);have hm:bS p f∈dm p f.pl.block:=dx jB;obtain⟨k0,k1,k2,k3⟩:=hX.aw hw.ok f0 f1 hm;have hsl:=(hw.ok.ap f.fn.toNat jB).all (bS p f).toNat k2 (by have:=hX.hi;omega) (by unfold kU at hx;unfold ie;omega);have hfs:=h.sl;generalize hs:nth p.slots (bS p f).toNat=s at*;have hnth:∀i:Int,0<=i->nth (f.slots.set s.toNat w) i.toNat=if i=s then w else nth f.slots i.toNat:=fun i hi=>by
  rw[Go.Gd.bc _ _ _ _ jB];by_cases e:i=s
  ·rw[if_pos e,jP]
  ·rw[if_neg e,jN]
 have e1:jZ p f=mW p ((dm p f.pl.block).take f.pl.at_.toNat) (oA p (my (nth p.aa.ap f.fn.toNat).params 0) (f.path.take (f.path.length-1))):=by
  unfold jZ;rw[kG hb.1,rF,<-kG hb.1];rfl
 have e:jZ p (fz { f with slots:=f.slots.set s.toNat w })=nZ p (bS p f) (jZ p f):=by
  rw[e1];unfold jZ;rw[nT (f:={ f with slots:=f.slots.set s.toNat w }) hb.1,rF];show mW p ((dm p f.pl.block).take (f.pl.at_+1).toNat) _=_;rw[show(f.pl.at_+1).toNat=f.pl.at_.toNat+1 from jB,wz _ _ jB,A3];rfl
 refine⟨?_,fun v hv'=>?_,fun u hu=>?_⟩
 ·have hn:=t.mD
  rw[kG hb.1,tg]at hn;rw[nT (f:={ f with slots:=f.slots.set s.toNat w }) hb.1,tg];exact⟨hn.1,hn.2.1,trivial⟩
 ·rw[e]at hv'
  show 0<=v.slot/\v.slot<(f.slots.set s.toNat w).length/\(nth (f.slots.set s.toNat w) v.slot.toNat).ty=v.ty/\jU (nth (f.slots.set s.toNat w) v.slot.toNat)=true;rw[List.length_set];have old:∀v∈jZ p f,v.slot≠s->0<=v.slot/\v.slot<f.slots.length/\(nth (f.slots.set s.toNat w) v.slot.toNat).ty=v.ty/\jU (nth (f.slots.set s.toNat w) v.slot.toNat)=true:=fun v hv hne=>by
   obtain⟨g1,g2,g3,g4⟩:=t.ue v hv;rw[hnth _ g1,if_neg hne];exact⟨g1,g2,g3,g4⟩
  rcases hx with hx|hx
  ·unfold nZ at hv'
   rw[if_pos (show(ai p (bS p f)).kind=10 from hx)]at hv';rcases List.mem_append.1 hv' with hv'|hv'
   ·exact old v hv' (by have:=(sw.oW hx v hv').2;rwa [hs]at this)
   ·rw[List.mem_singleton.1 hv']
    show 0<=nth p.slots (bS p f).toNat/\nth p.slots (bS p f).toNat<_/\(nth (f.slots.set s.toNat w) (nth p.slots (bS p f).toNat).toNat).ty=nth p.types (nth (ai p (bS p f)).l 0).toNat/\jU (nth (f.slots.set s.toNat w) (nth p.slots (bS p f).toNat).toNat)=true;rw[hs,hnth _ hsl.1,if_pos rfl];exact⟨hsl.1,jB,hv.ty,hv.xX⟩
  ·rw[zn (by have hx:(ai p (bS p f)).kind=11:=hx;omega)]at hv'
   by_cases hne:v.slot=s
   ·obtain⟨u,u1,u2,u3,u4⟩:=sw.set hx
    have huv:u=v:=by
     obtain⟨i,hi,rfl⟩:=List.getElem_of_mem u1;obtain⟨k,hk,rfl⟩:=List.getElem_of_mem hv';rw[hs]at u3;rcases Nat.lt_trichotomy i k with hik|hik|hik
     ·exact((List.pairwise_iff_getElem.1 hE i k hi hk hik).2 (by rw[u3,hne])).elim
     ·subst hik;rfl
     ·exact((List.pairwise_iff_getElem.1 hE k i hk hi hik).2 (by rw[u3,hne])).elim
    subst huv;rw[hne,hnth _ hsl.1,if_pos rfl];exact⟨hsl.1,jB,hv.ty.trans u4.symm,hv.xX⟩
   ·exact old v hv' hne
 ·have hu:u∈f.slots.set s.toNat w:=hu
  rcases O3 hu with rfl|hu
  ·exact hv.oZ
  ·exact t.oZ u hu
theorem iC.bq(t:iC p N f)(hne:f.path≠[]){b:Int}(hk:pd p f.pl b):iC p N { f with path:=f.path++[⟨b,0⟩] }:=by
 have e:jZ p { f with path:=f.path++[⟨b,0⟩] }=jZ p f:=by
  unfold jZ;show oA p _ (f.path++[⟨b,0⟩])=_;rw[rF];rfl
 refine⟨?_,by rw[e];exact t.ue,t.oZ⟩;show pX p _ (f.path++[⟨b,0⟩]);rw[tg];refine⟨t.mD,?_,trivial⟩;rw[kG hne,Co];exact hk
theorem iC.cut(t:iC p N f)(hne:f.path≠[]):iC p N { f with path:=f.path.take (f.path.length-1) }:=by
 have hn:=t.mD;rw[kG hne,tg]at hn;refine⟨hn.1,fun v hv=>t.ue v ?_,t.oZ⟩;unfold jZ;rw[kG hne,rF];exact GD _ _ hv
theorem iC.mono{M:Int}(t:iC p N f)(h:N<=M):iC p M f:=⟨t.mD,t.ue,fun w hw e=>by have:=t.oZ w hw e;omega⟩
structure dP(p:ab)(R:RS):Prop where
 fr:∀k,k<R.nf->iC p R.heap.length (nth R.aJ k)
 link:∀k,k+1<R.nf->AK p (nth R.aJ k) (nth R.aJ (k+1)).fn
theorem dP.aQ{p:ab}{R:RS}(t:dP p R)(hok:R.nf<=R.aJ.length)(h1:1<=R.nf){f:aI}(hf:iC p R.heap.length f)(hfn:f.fn=R.ah.fn):dP p (R.aQ (R.nf-1) f):=by
 have hu:=fun k=>RS.bc (R:=R) (k:=R.nf-1) jB f k
 refine⟨fun k hk=>?_,fun k hk=>?_⟩
 ·rw[hu];split
  ·exact hf
  ·exact t.fr k hk
 ·have hk:k+1<R.nf:=hk
  rw[hu,jN,hu];split
  ·rename_i e
   have:=t.link k hk;rw[hfn,RS.ah,<-e];exact this
  ·exact t.link k hk
theorem dP.cut{p:ab}{R:RS}(t:dP p R)(hok:R.nf<=R.aJ.length)(h1:1<=R.nf)(hp:R.ah.path.length≠0):dP p R.cut:=by
 have:=t.aQ hok h1 (f:={ R.ah with path:=R.ah.path.take (R.ah.path.length-1) }) ((t.fr (R.nf-1) jB).cut fun e=>hp (by unfold RS.ah;rw[e];rfl)) rfl;exact⟨this.fr,this.link⟩
variable{a:Int}
theorem xo{R:RS}{v:ak}(h:R.nf-1<R.aJ.length):(R.fC p a v).on=R.aQ (R.nf-1) (fz { R.ah with slots:=R.ah.slots.set (nth p.slots a.toNat).toNat v }):=by
 have hn:nth (R.fC p a v).aJ (R.nf-1)=_:=(RS.bc (R:=R) h _ (R.nf-1)).trans (if_pos rfl);show RS.aQ _ (R.nf-1) (fz (nth (R.fC p a v).aJ (R.nf-1)))=_;rw[hn];unfold RS.fC RS.aQ;simp only[RS.ah,List.set_set]
theorem dP.bI{p:ab}(hw:iH p){R:RS}(hI:cS p R)(t:dP p R)(h1:1<=R.nf){v:ak}(hv:(nth p.aa.ap R.ah.fn.toNat).ret≠0->nQ R.heap.length (nth p.aa.ap R.ah.fn.toNat).ret v):dP p (R.bI p v):=by
 have hnf:=hI.ok.nf;unfold RS.bI;split
 ·exact⟨fun k hk=>t.fr k (by have hk:k<R.nf-1:=hk;omega),fun k hk=>t.link k (by have hk:k+1<R.nf-1:=hk;omega)⟩
 rename_i h2;have hP:dP p R.pop:=⟨fun k hk=>t.fr k (by have hk:k<R.nf-1:=hk;omega),fun k hk=>t.link k (by have hk:k+1<R.nf-1:=hk;omega)⟩;have hb:=hI.busy (R.nf-1-1) jB;have hf:=hI.fr (R.nf-1-1) jB;have ht:=t.fr (R.nf-1-1) jB;have hl:=t.link (R.nf-1-1) jB;rw[show R.nf-1-1+1=R.nf-1 from jB]at hl;have hl:AK p (nth R.aJ (R.nf-1-1)) R.ah.fn:=hl;have hat:cn p R.pop.st=bS p (nth R.aJ (R.nf-1-1)):=by
  unfold cn bS;have:R.pop.st.af=nth R.aJ (R.nf-1-1):=by
   unfold aK.af;show nth (R.aJ.take (R.nf-1)) ((R.aJ.take (R.nf-1)).length-1)=_;rw[show(R.aJ.take (R.nf-1)).length=R.nf-1 by simp;omega,ca _ _ _ jB]
  rw[this]
 have hpn:R.pop.nf=R.nf-1:=rfl;have hpf:R.pop.aJ=R.aJ:=rfl;split
 ·rename_i hls
  rw[hat]at hls;obtain⟨c1,c2,c3⟩:=hl;have hcw:=((sK hw hf ht hb).1 0).call (by have:=hls;unfold kU at this;have e:(ai p (bS p (nth R.aJ (R.nf-1-1)))).kind=(nth p.aa.nodes (bS p (nth R.aJ (R.nf-1-1))).toNat).kind:=rfl;omega) c2;have hr:=hcw.ret;rw[c3]at hr;have hty:1<=nth p.types (nth (ai p (bS p (nth R.aJ (R.nf-1-1)))).l 0).toNat:=by
   rcases hls with e|e
   ·have hm:bS p (nth R.aJ (R.nf-1-1))∈dm p (nth R.aJ (R.nf-1-1)).pl.block:=dx (by have:=hb.2;have:=(hf.pl _ (lI hb.1)).a0;omega)
    have hX:=hf.pl _ (lI hb.1);obtain⟨k0,k1,k2,k3⟩:=hX.aw hw.ok hf.f0 hf.f1 hm;have hi:=hX.in_ hw.ok hf.f0 hf.f1;exact((hw.ok.ok.ty (bS p (nth R.aJ (R.nf-1-1))).toNat (Nat.zero_le _) jB).oW e).1
   ·obtain⟨u,u1,u2,u3,u4⟩:=((sK hw hf ht hb).1 0).set e
    obtain⟨_,_,g3,g4⟩:=ht.ue u u1;have:=KN g4;rw[<-u4,<-g3];exact this.1
  have hv':=hv jB;rw[<-hr]at hv';have hst:=iC.store hw hf ht hb hls hv';rw[xo (R:=R.pop) (by rw[hpn,hpf];omega),hat];exact hP.aQ (by rw[hpn,hpf];omega) jB hst rfl
 ·rename_i hls
  rw[hat]at hls;exact hP.aQ (by rw[hpn,hpf];omega) jB (iC.on hf ht hb fun e=>hls (.inl e)) rfl
theorem dP.settle{p:ab}(hw:iH p):∀(n:Nat) {R:RS},cS p R->dP p R->dP p (lB p n R)
 |0,R,_,t=>t
 |n+1,R,hI,t=>by
  unfold lB;split
  ·exact t
  rename_i e;have hg:=hI.go e;split
  ·refine dP.settle hw n (hI.bI hg _).1 (t.bI hw hI hg fun hz=>?_)
   have hf:dc p R.ah:=hI.fr (R.nf-1) jB;have:=(hw.ok.ok.aa.fn _ (dx (l:=p.aa.ap) (k:=R.ah.fn.toNat) (by have:=hf.f0;have:=hf.f1;omega))).1.ret;exact⟨rfl,wK jB,fun _=>by show(0:Int)<=_;omega⟩
  rename_i e1;split
  ·exact t
  ·exact dP.settle hw n (hI.cut hg e1).1 (t.cut hI.ok.nf hg e1)
theorem MY(s:ByteArray)(a b:Int):gJ s a b≠4:=by
 unfold gJ
 (repeat' split)<;>omega
theorem Ig(h:rX p){slots:List ak}{heap:List (List Int)}(hN:0<=N)(hl:∀w∈slots,w.ty=4->w.n<=N){n:Nat}(h0:0<=a)(h1:a<p.aa.nodes.length)(hn:a.toNat<n)(hk:bO (bs p.aa.nodes a)):(dZ p slots heap n a).1.ty=4->(dZ p slots heap n a).1.n<=N:=by
 intro e;have ht:=sW h slots heap n a h0 h1 hn hk;rcases ht with⟨_,t1,_⟩|⟨_,t1⟩
 rotate_left
 ·rw[t1]at e;exact absurd e jC
 rw[e]at t1;have ty:=h.ty a.toNat (Nat.zero_le _) jB;have hk':bO (nth p.aa.nodes a.toNat).kind:=hk;unfold bO at hk';have k4:(nth p.aa.nodes a.toNat).kind=4:=by
  have hc:(nth p.aa.nodes a.toNat).kind=1\/(nth p.aa.nodes a.toNat).kind=2\/(nth p.aa.nodes a.toNat).kind=3\/(nth p.aa.nodes a.toNat).kind=4\/(nth p.aa.nodes a.toNat).kind=5\/(nth p.aa.nodes a.toNat).kind=6\/(nth p.aa.nodes a.toNat).kind=7\/(nth p.aa.nodes a.toNat).kind=8\/(nth p.aa.nodes a.toNat).kind=9:=jB
  rcases hc with k|k|k|k|k|k|k|k|k
  ·have:=ty.int k;omega
  ·have:=ty.bool k;omega
  ·have:=ty.text k;omega
  ·exact k
  ·have:=(ty.index k).1;omega
  ·have:=(ty.len k).1;omega
  ·have:=(ty.neg k).1;omega
  ·have:=(ty.not k).1;omega
  ·have:=(ty.y8 k).1;rw[<-t1]at this;exact(MY _ _ _ this.symm).elim
 obtain⟨m,rfl⟩:∃m,n=m+1:=⟨n-1,jB⟩;have ev:dZ p slots heap (m+1) a=(df slots (nth p.slots a.toNat) (nth p.types a.toNat),0):=by
  conv=>lhs;unfold dZ
  simp only;rw[jN,jN,jN,if_pos k4]
 rw[ev]at e ⊢;have e:(df slots (nth p.slots a.toNat) (nth p.types a.toNat)).ty=4:=e;show(df slots (nth p.slots a.toNat) (nth p.types a.toNat)).n<=N;unfold df at e ⊢;split
 ·exact hN
 rename_i e1;rw[if_neg e1]at e;split
 ·rename_i e2
  rw[if_pos e2]at e;exact hl _ (dx jB) e
 ·exact hN
theorem A7(hs:dT p){R:RS}(hl:∀w∈R.ah.slots,w.ty=4->w.n<=R.heap.length)(h0:0<=a)(h1:a.toNat<p.aa.nodes.length)(hk:bO (bs p.aa.nodes a))(h2:(R.val p a).2=0):nQ R.heap.length (nth p.types a.toNat) (R.val p a).1:=by
 obtain⟨t1,t2⟩:=qb (E2 hs R h0 h1 hk) h2;exact⟨t1,t2,Ig hs.ok jB hl h0 jB jB hk⟩
theorem AT{p:ab}(R:RS):∀(l:List Int) (a:List ak),(R.args p l a).2=0->(R.args p l a).1=a++l.map (fun x=>(R.val p x).1)/\∀x∈l,(R.val p x).2=0
 |[],a,_=>⟨by simp[RS.args],fun x hx=>by cases hx⟩
 |x::l,a,h=>by
  unfold RS.args at h ⊢;split
  ·rename_i e;rw[if_pos e]at h;exact(e h).elim
  ·rename_i e;rw[if_neg e]at h
   obtain⟨h1,h2⟩:=AT R l _ h;refine⟨by rw[h1];simp,fun y hy=>?_⟩;rcases List.mem_cons.1 hy with rfl|hy
   ·exact Classical.not_not.1 e
   ·exact h2 y hy
theorem FW:∀(l:List bD) (i:Int) (v:bC),v∈my l i->∃k:Nat,k<l.length/\v.slot=i+k/\v.ty=(nth l k).ty
 |[],_,v,h=>by cases h
 |x::l,i,v,h=>by
  unfold my at h;rcases List.mem_cons.1 h with rfl|h
  ·exact⟨0,jE,by show i=i+((0:Nat):Int);omega,rfl⟩
  ·obtain⟨k,h1,h2,h3⟩:=FW l (i+1) v h
   exact⟨k+1,by simpa using h1,by rw[h2];push_cast;omega,h3⟩
theorem so{α β:Type}[Inhabited α][Inhabited β](f:α->β)(l:List α)(k:Nat)(h:k<l.length):nth (l.map f) k=f (nth l k):=by
 rw[dN (by simpa using h),dN h];simp
theorem C4(hs:dT p){k:Nat}(hk:k<p.aa.ap.length){args:List ak}(hN:0<=N)(ha:args.length=(nth p.aa.ap k).params.length)(ht:∀i,i<args.length->nQ N (nth (nth p.aa.ap k).params i).ty (nth args i)):iC p N (iJ p k args):=by
 have hp:=(hs.ap k hk).vV;have hz:((iJ p k args).slots.length:Int)=nth p.size k:=by
  show((args++List.replicate _ v0).length:Int)=_;rw[Int.toNat_natCast];simp;omega
 have e:jZ p (iJ p k args)=my (nth p.aa.ap k).params 0:=by
  show oA p (my (nth p.aa.ap (k:Int).toNat).params 0) [⟨(nth p.aa.ap (k:Int).toNat).body,0⟩]=_;rw[Int.toNat_natCast];rfl
 refine⟨?_,fun v hv=>?_,fun w hw e=>?_⟩
 ·show pX p (fun b=>b=(nth p.aa.ap (k:Int).toNat).body) [⟨(nth p.aa.ap (k:Int).toNat).body,0⟩]
  exact⟨rfl,trivial⟩
 ·rw[e]at hv
  obtain⟨i,h1,h2,h3⟩:=FW _ _ _ hv;have hslot:v.slot=i:=jB
  have hn:nth (iJ p k args).slots i=nth args i:=by
   show nth (args++List.replicate _ v0) i=_;rw[mS jB]
  rw[hslot,Int.toNat_natCast,hn,h3];have:=ht i jB;exact⟨jB,jB,this.ty,this.xX⟩
 ·have hw:w∈args++List.replicate _ v0:=hw
  rcases List.mem_append.1 hw with hw|hw
  ·obtain⟨i,hi,rfl⟩:=List.getElem_of_mem hw
   rw[<-dN hi]at e ⊢;exact(ht i hi).oZ e
  ·rw[(List.mem_replicate.1 hw).2]at e
   exact absurd e jC
theorem dP.push{p:ab}{R:RS}(t:dP p R)(hfull:R.nf=R.aJ.length)(h1:1<=R.nf){f:aI}(hf:iC p R.heap.length f)(hc:AK p R.ah f.fn):dP p (R.push f):=by
 have hu:∀k,k<=R.nf->nth (R.push f).aJ k=if k=R.nf then f else nth R.aJ k:=fun k hk=>by
  show nth (R.aJ++[f]) k=_;rw[xC _ _ _ jB,hfull]
 refine⟨fun k hk=>?_,fun k hk=>?_⟩
 ·have hk:k<R.nf+1:=hk
  rw[hu k jB];split
  ·exact hf
  ·exact t.fr k jB
 ·have hk:k+1<R.nf+1:=hk
  rw[hu k jB,jN,hu (k+1) jB];split
  ·rename_i e
   unfold RS.ah at hc;rwa [show R.nf-1=k from jB]at hc
  ·exact t.link k jB
theorem bE.lE{R:RS}(h:bE p R):cn p R.st=bS p R.ah:=by
 unfold cn bS;rw[h.qS]
theorem bE.fr{p:ab}{R:RS}(h:bE p R):dc p R.ah:=h.inv.fr (R.nf-1) (by have:=h.one;omega)
theorem dP.store{p:ab}(hw:iH p){R:RS}(h:bE p R)(t:dP p R)(hls:kU p (cn p R.st)){v:ak}(hv:nQ R.heap.length (nth p.types (nth (ai p (cn p R.st)).l 0).toNat) v):dP p (R.store p (cn p R.st) v):=by
 have h1:=h.one;have hnf:=h.inv.ok.nf;unfold RS.store;rw[xo jB];rw[h.lE]at hls hv ⊢;exact t.aQ hnf h1 (iC.store hw h.fr (t.fr (R.nf-1) jB) h.af hls hv) rfl
theorem dP.on{p:ab}{R:RS}(h:bE p R)(t:dP p R)(hk:(ai p (cn p R.st)).kind≠10):dP p R.on:=by
 have h1:=h.one;rw[h.lE]at hk;exact t.aQ h.inv.ok.nf h1 (iC.on h.fr (t.fr (R.nf-1) jB) h.af hk) rfl
theorem dP.call{p:ab}(hw:iH p){R:RS}(h:bE p R)(t:dP p R){x:Int}(hx:x=nth (ai p (cn p R.st)).l 0)(hst:(ai p (cn p R.st)).kind=10\/(ai p (cn p R.st)).kind=11\/(ai p (cn p R.st)).kind=13)(h0:0<=x)(hl:x.toNat<p.aa.nodes.length)(hk:(ai p x).kind=21)(he:(R.call p x).2=0):dP p (R.call p x).1:=by
 have h1:=h.one;obtain⟨k,hc⟩:=callee hw.ok hl hk;have hcw:=((sK hw h.fr (t.fr (R.nf-1) jB) h.af).1 0).call;have hat:=h.lE;have hcw:=hcw (by rw[<-hat];exact hst) (by rw[<-hat,<-hx];exact hk);rw[<-hat,<-hx]at hcw;unfold RS.call at he ⊢;simp only at he ⊢;split at he
 ·rename_i e;exact(e he).elim
 rename_i e;rw[if_neg e];split at he
 ·exact((by decide:¬((3:Int)=0)) he).elim
 rename_i e8;rw[if_neg e8,hc.at_];obtain⟨a1,a2⟩:=AT R _ [] (Classical.not_not.1 e);rw[List.nil_append]at a1;have hsh:=(hw.ok.ok.aa.shape x.toNat hl);have hcal:uO p x=k:=hc.last;refine t.push h.full h1 (C4 hw.ok hc.lt jB (by rw[a1,List.length_map];exact hc.args) fun i hi=>?_) ⟨by rw[<-hat];exact hst,by rw[<-hat,<-hx];exact hk,by rw[<-hat,<-hx];exact hcal⟩;rw[a1,List.length_map]at hi;have hm:=dx hi;have hb:=hsh.2.1 _ hm;rw[a1,so _ _ _ hi];have:=A7 hw.ok (R:=R) (t.fr (R.nf-1) jB).oZ hb.1 jB (hsh.1.call hk _ hm) (a2 _ hm);have hty:=hcw.args i hi;rw[hcal,Int.toNat_natCast]at hty;rwa [hty]at this
theorem dP.with{p:ab}{R:RS}(t:dP p R){hp:List (List Int)}(h:R.heap.length<=hp.length)(i:Int)(o:List ByteArray):dP p { R with heap:=hp,in_:=i,ay:=o }:=⟨fun k hk=>(t.fr k hk).mono (by show(R.heap.length:Int)<=(hp.length:Int);omega),t.link⟩
theorem dP.cr{p:ab}(hw:iH p){R:RS}(h:bE p R)(t:dP p R){inp:List Int}(hn:inp.length<=1000)(hwt:¬mf p R.st (cn p R.st) inp)(he:(R.cr p (cn p R.st) inp).2=0):dP p (R.cr p (cn p R.st) inp).1:=by
 have hs:=hw.ok;obtain⟨s0,s1,s2,_⟩:=h.stmt hs;have sh:=(hs.ok.aa.shape _ s1);have h1:=h.one;have hnf:=h.inv.ok.nf;have tf:=t.fr (R.nf-1) jB;have hat:=h.lE;have aw:∀i,i<(ai p (cn p R.st)).l.length->0<=nth (ai p (cn p R.st)).l i/\(nth (ai p (cn p R.st)).l i).toNat<p.aa.nodes.length:=fun i hi=>by
  have:=sh.2.1 _ (dx (l:=(ai p (cn p R.st)).l) hi);omega
 have hsw:=((sK hw h.fr tf h.af).1 0);rw[<-hat]at hsw;have hpl:=h.fr.pl _ (lI h.af.1);have ha0:=hpl.a0;have hb2:=h.af.2;have kidB:∀(x:aZ),x.block=R.ah.pl.block->(x.at_=R.ah.pl.at_\/x.at_=R.ah.pl.at_+1)->(ai p (cn p R.st)).kind=15\/(ai p (cn p R.st)).kind=16->∀b,b∈(ai p (cn p R.st)).l.drop 1->pd p x b:=fun x hx1 hx2 hk b hb=>by
  rw[hat]at hk hb;exact⟨R.ah.pl.at_.toNat,jB,by rw[hx1];omega,by rw[hx1];exact hk,by rw[hx1];exact hb⟩
 have hdp:(ai p (cn p R.st)).kind=16->∀b,b∈(ai p (cn p R.st)).l.drop 1->dP p (R.bq b):=fun hk b hb=>
  t.aQ hnf h1 (tf.bq h.af.1 (kidB _ rfl (.inl rfl) (.inr hk) b hb)) rfl
 have hod:(ai p (cn p R.st)).kind=15->∀b,b∈(ai p (cn p R.st)).l.drop 1->dP p (R.on.bq b):=fun hk b hb=>by
  have hon:=t.on h jB;have hne:(fz R.ah).path≠[]:=by rw[nT h.af.1];simp
  have hpl:(fz R.ah).pl=⟨R.ah.pl.block,R.ah.pl.at_+1⟩:=by
   unfold aI.pl;have hl:R.ah.path.length≠0:=fun e=>h.af.1 (List.length_eq_zero_iff.1 e)
   have e:(fz R.ah).path.length=R.ah.path.length:=by show(List.set _ _ _).length=_;simp
   rw[e];show nth (R.ah.path.set (R.ah.path.length-1) _) (R.ah.path.length-1)=_;rw[Go.Gd.bc _ _ _ _ jB,if_pos rfl]
  have htop:R.on.ah=fz R.ah:=RS.gM h.inv.ok h1 _;have tf2:=iC.on h.fr tf h.af (by rw[<-hat];omega);refine hon.aQ (by show R.nf<=(R.aJ.set _ _).length;simpa using hnf) h1 ?_ rfl;rw[htop];exact tf2.bq hne (kidB _ (by rw[hpl]) (.inr (by rw[hpl])) (.inl hk) b hb)
 unfold RS.cr at he ⊢;simp only at he ⊢;split at he
 ·rename_i e
  rw[if_pos e];obtain⟨a,ha,hr⟩:=sh.1.right e;have hla:(ai p (cn p R.st)).l=[a]:=ha;have hx:nth (ai p (cn p R.st)).l 0=a:=by rw[hla];rfl
  have ha0:=aw 0 (by rw[hla];simp);rw[hx]at ha0;have hty:=hs.ok.ty a.toNat (Nat.zero_le _) ha0.2;unfold RS.right at he ⊢;simp only[hx]at he ⊢;split at he
  ·rename_i e1;rw[if_pos e1]
   exact t.call hw h hx.symm jB ha0.1 ha0.2 e1 he
  rename_i e1;rw[if_neg e1];split at he
  ·rename_i e2;rw[if_pos e2]
   have hin:¬((inp.length:Int)<=R.in_):=fun hle=>hwt ⟨e,by rw[hx];exact e2,hle⟩
   have hd:bE p { R with in_:=R.in_+1 }:=h.with (hp:=R.heap) (i:=R.in_+1) (o:=R.ay) h.cells ⟨by have:=h.gT;omega,jB⟩ h.outs
   have tw:=t.with (hp:=R.heap) jl (R.in_+1) R.ay
   exact tw.store hw hd e ⟨by show(1:Int)=nth p.types (nth (ai p (cn p R.st)).l 0).toNat;rw[hx];exact(hty.in_ e2).symm,rfl,fun h4=>absurd h4 (by show¬((1:Int)=4);decide)⟩
  rename_i e2;rw[if_neg e2];split at he
  ·rename_i e3;rw[if_pos e3]
   split at he
   ·rename_i e4;rw[if_pos e4]
    have hd:=h.fresh a e4;have tw:dP p (R.fresh p a).1/\nQ (R.fresh p a).1.heap.length 4 (R.fresh p a).2.1/\(R.fresh p a).1.st.ao=R.st.ao:=by
     unfold RS.fresh at e4 ⊢;simp only at e4 ⊢;split at e4
     ·rename_i e5;exact(e5 e4).elim
     rename_i e5;rw[if_neg e5];split at e4
     ·exact((by decide:¬((7:Int)=0)) e4).elim
     rename_i e6;rw[if_neg e6];split at e4
     ·exact((by decide:¬((4:Int)=0)) e4).elim
     rename_i e7;rw[if_neg e7];refine⟨t.with (hp:=R.heap++[List.replicate _ 0]) jE R.in_ R.ay,⟨rfl,?_,fun _=>by show((R.heap.length:Int)+1)<=((R.heap++[List.replicate _ 0]).length:Int);simp⟩,rfl⟩;have h0:(0:Int)<=R.heap.length+1:=jB
     unfold jU;rw[if_neg (by show¬((4:Int)=1);decide),if_neg (by show¬((4:Int)=2);decide),if_neg (by show¬((4:Int)=3);decide),if_pos rfl];rw[decide_eq_true (show(⟨4,(R.heap.length:Int)+1,sE⟩:ak).s=sE from rfl),decide_eq_true (show 0<=(⟨4,(R.heap.length:Int)+1,sE⟩:ak).n from h0)];rfl
    obtain⟨t1,t2,t3⟩:=tw;have hat':cn p (R.fresh p a).1.st=cn p R.st:=by unfold cn aK.af;rw[t3]
    have:=t1.store hw hd (by rw[hat'];exact e) (v:=(R.fresh p a).2.1) (by rw[hat',hx,hty.new e3];exact t2);rw[hat']at this;exact this
   ·rename_i e4;exact(e4 he).elim
  rename_i e3;rw[if_neg e3];split at he
  ·rename_i e4;rw[if_pos e4]
   have hE:bO (bs p.aa.nodes a):=by
    rcases hr with hr|hr|hr|hr
    ·exact hr
    ·exact(e2 hr).elim
    ·exact(e3 hr).elim
    ·exact(e1 hr).elim
   exact t.store hw h e (by rw[hx];exact A7 hs tf.oZ ha0.1 ha0.2 hE e4)
  ·rename_i e4;exact(e4 he).elim
 rename_i e;rw[if_neg e];have hk10:(ai p (cn p R.st)).kind≠10:=fun h=>e (.inl h)
 split at he
 ·rename_i e1;rw[if_pos e1]
  obtain⟨a,ha,hr⟩:=sh.1.mR e1;have hla:(ai p (cn p R.st)).l=[a]:=ha;have ha0:=aw 0 (by rw[hla];simp);have hx:nth (ai p (cn p R.st)).l 0=a:=by rw[hla];rfl
  rw[hx]at ha0 he ⊢;exact t.call hw h hx.symm jB ha0.1 ha0.2 hr he
 rename_i e1;rw[if_neg e1];split at he
 ·rename_i e2;rw[if_pos e2]
  unfold RS.put at he ⊢;simp only at he ⊢;split at he
  ·rename_i e3;exact(e3 he).elim
  rename_i e3;rw[if_neg e3];split at he
  ·rename_i e4;exact(e4 he).elim
  rename_i e4;rw[if_neg e4];split at he
  ·exact((by decide:¬((2:Int)=0)) he).elim
  rename_i e5;rw[if_neg e5];have hg:(lg R.heap (df R.ah.slots (nth p.slots (cn p R.st).toNat) 4)).length≠0:=jB
  generalize hv:df R.ah.slots (nth p.slots (cn p R.st).toNat) 4=v at*;unfold lg at hg;split at hg
  ·simp at hg
  rename_i e6;have hd:=h.with (hp:=R.heap.set (v.n-1).toNat ((nth R.heap (v.n-1).toNat).set (R.val p (nth (ai p (cn p R.st)).l 0)).1.n.toNat (R.val p (nth (ai p (cn p R.st)).l 1)).1.n)) (i:=R.in_) (o:=R.ay) (by rw[At _ _ _ jB jE];exact h.cells) ⟨h.gT,h.gG⟩ h.outs
  exact(t.with jE R.in_ R.ay).on hd hk10
 rename_i e2;rw[if_neg e2];split at he
 ·rename_i e3;rw[if_pos e3]
  have hret:=hsw.ret e3;have hf1:=h.fr.f1;have hf0:=h.fr.f0;split at he
  ·rename_i e4;rw[if_pos e4]
   exact t.bI hw h.inv h1 fun hz=>(hz (hret.2 jB)).elim
  rename_i e4;rw[if_neg e4];split at he
  ·rename_i e5;exact(e5 he).elim
  rename_i e5;rw[if_neg e5];refine t.bI hw h.inv h1 fun hz=>?_
  rcases sh.1.ret e3 with hl|⟨x,hl,hxe⟩
  ·have hl:(ai p (cn p R.st)).l=[]:=hl
   rw[hl]at e4;exact(e4 rfl).elim
  ·have hl:(ai p (cn p R.st)).l=[x]:=hl
   have hx:nth (ai p (cn p R.st)).l 0=x:=by rw[hl];rfl
   have hx0:=aw 0 (by rw[hl];simp);have hty:=hret.1 (by rw[hl];rfl);rw[<-hty];rw[hx]at hx0 e5 ⊢;exact A7 hs tf.oZ hx0.1 hx0.2 hxe (Classical.not_not.1 e5)
 rename_i e3;rw[if_neg e3];split at he
 ·rename_i e4;exact(e4 he).elim
 rename_i e4;rw[if_neg e4];split at he
 ·rename_i e5;rw[if_pos e5]
  split at he
  ·exact((by decide:¬((5:Int)=0)) he).elim
  rename_i e6;rw[if_neg e6];have hd:=h.with (hp:=R.heap) (i:=R.in_) (o:=R.ay++[jW (R.val p (nth (ai p (cn p R.st)).l 0)).1]) h.cells ⟨h.gT,h.gG⟩ jF
  exact(t.with jl R.in_ _).on hd hk10
 rename_i e5;rw[if_neg e5];split at he
 ·rename_i e6;rw[if_pos e6]
  obtain⟨a,b,h1,h2,hl⟩:=sh.1.kg e6;split
  ·refine hod e6 _ ?_
   rcases hl with hl|⟨d,hl,_⟩<;>(unfold ai;rw[hl];simp[nth])
  split
  ·rename_i e8
   rcases hl with hl|⟨d,hl,hd⟩
   ·exfalso;unfold ai at e8;rw[hl]at e8;simp at e8
   ·refine hod e6 _ ?_
    unfold ai;rw[hl];simp[nth]
  ·exact t.on h hk10
 rename_i e6;rw[if_neg e6];split at he
 ·rename_i e7;rw[if_pos e7]
  obtain⟨a,b,hl,h1,h2⟩:=sh.1.dK e7;split
  ·refine hdp e7 _ ?_
   unfold ai;rw[hl];simp[nth]
  ·exact t.on h hk10
 ·rename_i e7
  exfalso;have:dv (ai p (cn p R.st)).kind:=s2;unfold dv at this;omega
theorem dP.st{p:ab}{R:RS}(hok:R.nf<=R.aJ.length)(t:dP p R):dP p (RS.of R.st):=by
 have hl:(RS.of R.st).nf=R.nf:=by show(R.aJ.take R.nf).length=_;simp;omega
 have hfr:∀k,k<R.nf->nth (RS.of R.st).aJ k=nth R.aJ k:=fun k hk=>ca _ _ _ hk
 refine⟨fun k hk=>?_,fun k hk=>?_⟩
 ·rw[hl]at hk;rw[hfr k hk];exact t.fr k hk
 ·rw[hl]at hk;rw[hfr k jB,hfr (k+1) hk];exact t.link k hk
theorem M6(hw:iH p){s:aK}(hI:cV p s)(t:dP p (RS.of s)){inp:List Int}(hn:inp.length<=1000):dP p (RS.of (hZ p s inp)):=by
 unfold hZ;split
 ·exact t
 rename_i h0;have h2:¬(s.status=2\/s.status=3):=fun hh=>h0 (by unfold fG;rw[if_pos hh];decide)
 split
 ·exact⟨t.fr,t.link⟩
 rename_i hwt;simp only;split
 ·exact⟨t.fr,t.link⟩
 ·rename_i he
  have hd:=hI.iE (fun hh=>h2 (.inl hh)) 0 jC;have hat:cn p (RS.of { s with status:=0 }).st=fG p s:=by rw[RS.fW];unfold fG;rw[if_neg h2];rfl
  have hst:(RS.of { s with status:=0 }).st={ s with status:=0 }:=RS.fW _;have hA:=hd.cr hw.ok hn (by rw[hat,hst];exact hwt) (by rw[hat];exact Classical.not_not.1 he);have hT:=dP.cr hw hd (R:=RS.of { s with status:=0 }) ⟨t.fr,t.link⟩ hn (by rw[hat,hst];exact hwt) (by rw[hat];exact Classical.not_not.1 he);rw[hat]at hA hT;generalize (RS.of { s with status:=0 }).cr p (fG p s) inp=X at*;have hX:dP p { X.1 with time:=s.time+1 }:=⟨hT.fr,hT.link⟩;have hI2:cS p { X.1 with time:=s.time+1 }:=⟨⟨hA.inv.ok.nf,hA.inv.ok.jp⟩,hA.inv.aJ,hA.inv.fr,hA.inv.busy,hA.inv.go⟩;exact dP.st (rp _ _ hI2 (Nat.lt_succ_self _)).1.ok.nf (dP.settle hw _ hI2 hX)
theorem Hs(hw:iH p):dP p (jM p):=by
 obtain⟨m,hm,hidx,_,hpar⟩:=yF hw.ok;refine⟨fun k hk=>?_,fun k hk=>?_⟩
 ·have hk:k<1:=hk
  have:k=0:=jB
  subst this;show iC p (([]:List (List Int)).length:Int) (iJ p (jn p) []);rw[hidx];exact C4 hw.ok hm jE (by rw[hpar];rfl) fun i hi=>by simp at hi
 ·have hk:k+1<1:=hk
  omega
end Go.Proofs.YtfkgcobaheegbaaGreatDoor

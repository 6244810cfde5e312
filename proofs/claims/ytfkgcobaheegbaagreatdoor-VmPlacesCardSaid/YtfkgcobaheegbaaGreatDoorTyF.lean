/- Lemmas. No conditions. -/
import Derived.Test.YtfkgcobaheegbaaGreatDoorCk8
set_option linter.all false
set_option maxHeartbeats 4000000
set_option maxRecDepth 10000
namespace Go.Proofs.YtfkgcobaheegbaaGreatDoor
open Go Go.Gd Tryz
def fY(t:ax)(a:Int):Prop:=0<=a/\a<t.nodes.length
def yW(c:Ck):Prop:=c.e=0\/c.e=44\/fY c.aa c.at_
def Kp(t:ax)(c c':Ck):Prop:=c.aa=t->c'.aa=t/\(yW c->yW c')
theorem Kp.refl(t:ax)(c:Ck):Kp t c c:=fun h=>⟨h,id⟩
variable{t:ax}{b:Ck}
theorem Kp.trans{a c:Ck}(h:Kp t a b)(k:Kp t b c):Kp t a c:=fun e=>⟨(k (h e).1).1,fun x=>(k (h e).1).2 ((h e).2 x)⟩
variable{c':Ck}
theorem oX{c:Ck}(h1:c'.aa=c.aa)(h2:c'.e=c.e)(h3:c'.at_=c.at_):Kp t c c':=fun e=>⟨h1.trans e,fun h=>by unfold yW at*;rw[h1,h2,h3];exact h⟩
variable{a:Int}
theorem qF(c:Ck)(e:Int)(ha:fY t a):Kp t c (c.aE e a):=fun ht=>by
 unfold Ck.aE;split
 ·refine⟨ht,fun _=>.inr (.inr ?_)⟩
  show fY c.aa a;rw[ht];exact ha
 ·exact⟨ht,id⟩
theorem qd(c:Ck)(b:Bool)(ha:fY t a):Kp t c (c.aq b a):=by
 unfold Ck.aq;split
 ·exact .refl t c
 ·exact qF c 42 ha
theorem y9(c:Ck)(ha:fY t a):Kp t c (c.named a).1:=by
 unfold Ck.named;split
 ·exact qF c 40 ha
 ·exact oX rfl rfl rfl
theorem Fk{α:Type}[Inhabited α]{l:List α}{i:Nat}(h:l.length<=i):nth l i=default:=by simp[nth,List.getD_eq_getElem?_getD,List.getElem?_eq_none h]
theorem uB(h:aH t){c:Ck}(hc:c.aa=t)(ha:fY t a)(i:Nat):fY t (c.aw a i):=by
 obtain⟨h0,h1⟩:=ha;unfold Ck.aw Ck.node;rw[hc];by_cases hi:i<(nth t.nodes a.toNat).l.length
 ·have:=(h.shape a.toNat jB).2.1 _ (dx hi)
  unfold fY;omega
 ·have:nth (nth t.nodes a.toNat).l i=0:=Fk (Nat.le_of_not_lt hi)
  rw[this];unfold fY;omega
theorem xG(h:aH t){c:Ck}(hc:c.aa=t)(ha:fY t a):∀x∈(c.node a).l,fY t x:=fun x hx=>by
 obtain⟨h0,h1⟩:=ha;unfold Ck.node at hx;rw[hc]at hx;have:=(h.shape a.toNat jB).2.1 _ hx;unfold fY;omega
theorem AU{t:ax}{ex:Ck->Int->Ck×Int}(hex:∀c a,fY t a->Kp t c (ex c a).1):∀(l:List Int) (c:Ck) (ts:List Int),(∀x∈l,fY t x)->Kp t c (fA ex c l ts).1
 |[],c,ts,_=>by unfold fA;exact .refl t c
 |a::l,c,ts,hl=>by
  unfold fA;split
  ·exact(hex c a (hl a jE)).trans (AU hex l _ _ fun x hx=>hl x (by simp[hx]))
  ·exact .refl t c
theorem D7{t:ax}{a:Int}(ha:fY t a):∀(ts:List Int) (ps:List bD) (c:Ck),Kp t c (gx a c ts ps)
 |[],ps,c=>by rw[rD];exact .refl t c
 |_::_,[],c=>by rw[sj];exact .refl t c
 |x::ts,p::ps,c=>by
  unfold gx;split
  ·exact(qd c _ ha).trans (D7 ha ts ps _)
  ·exact .refl t c
variable{ex:Ck->Int->Ck×Int}
theorem Oc(h:aH t)(hex:∀c a,fY t a->Kp t c (ex c a).1)(c:Ck)(ha:fY t a):Kp t c (gh ex c a).1:=fun hc=>by
 refine(show Kp t c (gh ex c a).1 from ?_) hc;unfold gh;split
 ·exact qF c 40 ha
 ·refine Kp.trans ?_ (D7 ha _ _ _)
  split
  ·exact(AU hex _ _ _ (xG h hc ha)).trans (qF _ 43 ha)
  ·exact AU hex _ _ _ (xG h hc ha)
theorem P6(h:aH t)(hex:∀c a,fY t a->Kp t c (ex c a).1)(c:Ck)(ha:fY t a):Kp t c (bU ex c a).1:=fun hc=>by
 have k0:=uB h hc ha 0;have k1:=uB h hc ha 1;refine(show Kp t c (bU ex c a).1 from ?_) hc;unfold bU;simp only;repeat' split
 all_goals first
  |exact .refl t c
  |exact y9 c ha
  |exact Oc h hex c ha
  |exact((y9 c ha).trans (hex _ _ k0)).trans (qd _ _ ha)
  |exact((hex c _ k0).trans (hex _ _ k1)).trans (qd _ _ ha)
  |exact(hex c _ k0).trans (qd _ _ ha)
theorem Gv{t:ax}(h:aH t):∀(n:Nat) (c:Ck) (a:Int),fY t a->Kp t c (ar n c a).1
 |0,c,a,ha=>by unfold ar;exact .refl t c
 |n+1,c,a,ha=>by
  unfold ar;split
  ·exact .refl t c
  ·exact(P6 h (Gv h n) c ha).trans (oX rfl rfl rfl)
theorem PD(h:aH t)(hex:∀c a,fY t a->Kp t c (ex c a).1)(c:Ck)(ha:fY t a):Kp t c (oj ex c a):=fun hc=>by
 have k0:=uB h hc ha 0;refine(show Kp t c (oj ex c a) from ?_) hc;rw[sD];have kA:Kp t c (gg ex c a):=(hex c _ k0).trans (qd _ _ ha);have kB:Kp t c (iB ex c a):=by
  unfold iB;split
  ·exact kA.trans (qF _ 41 ha)
  ·exact kA
 have kC:Kp t c (dq ex c a):=by
  unfold dq;split
  ·exact kB.trans (qF _ 4 ha)
  ·exact kB
 exact kC.trans (oX rfl rfl rfl)
theorem IK(h:aH t)(hex:∀c a,fY t a->Kp t c (ex c a).1)(c:Ck)(ha:fY t a):Kp t c (jw ex c a):=fun hc=>by
 have k0:=uB h hc ha 0;refine(show Kp t c (jw ex c a) from ?_) hc;unfold jw;simp only;split
 ·exact qF c 43 ha
 split
 ·exact(hex c _ k0).trans (qd _ _ ha)
 ·exact .refl t c
theorem zK{t:ax}{st:Ck->Int->Ck}(hst:∀c a,fY t a->Kp t c (st c a)):∀(l:List Int) (c:Ck),(∀x∈l,fY t x)->Kp t c (cY st c l)
 |[],c,_=>by unfold cY;exact .refl t c
 |a::l,c,hl=>by
  unfold cY;split
  ·exact(hst c a (hl a jE)).trans (zK hst l _ fun x hx=>hl x (by simp[hx]))
  ·exact .refl t c
theorem EL(h:aH t){st:Ck->Int->Ck}(hst:∀c a,fY t a->Kp t c (st c a))(c:Ck)(ha:fY t a):Kp t c (dR st c a):=fun hc=>by
 refine(show Kp t c (dR st c a) from ?_) hc;have h1:Kp t c (c.ac a):=oX rfl rfl rfl;exact(h1.trans (zK hst _ _ (xG h hc ha))).trans (oX rfl rfl rfl)
theorem E7{t:ax}(h:aH t):∀(n:Nat) (c:Ck) (a:Int),fY t a->Kp t c (bu n c a)
 |0,c,a,ha=>by unfold bu;exact .refl t c
 |n+1,c,a,ha=>fun hc=>by
  have k0:=uB h hc ha 0;have k1:=uB h hc ha 1;have kl:=xG h hc ha;refine(show Kp t c (bu (n+1) c a) from ?_) hc;have e0:Kp t c (c.ac a):=oX rfl rfl rfl;have hx:=Gv h n;unfold bu;simp only;refine e0.trans ?_;repeat' split
  ·exact PD h hx _ ha
  ·exact((y9 _ ha).trans (hx _ _ k0)).trans (qd _ _ ha)
  ·exact(((y9 _ ha).trans (hx _ _ k0)).trans (hx _ _ k1)).trans (qd _ _ ha)
  ·exact hx _ _ k0
  ·exact(hx _ _ k0).trans (qd _ _ ha)
  ·exact IK h hx _ ha
  ·exact((hx _ _ k0).trans (qd _ _ ha)).trans (zK (fun c a ha=>EL h (E7 h n) c ha) _ _ fun x hx'=>kl x (List.mem_of_mem_drop hx'))
theorem GS{t:ax}{body:Int}(hb:fY t body):∀(ps:List bD) (c:Ck) (i:Int),Kp t c (dD body c ps i)
 |[],c,i=>by unfold dD;exact .refl t c
 |p::ps,c,i=>by
  unfold dD;simp only;refine Kp.trans ?_ (GS hb ps _ _);split
  ·exact(qF c 41 hb).trans (oX rfl rfl rfl)
  ·exact oX rfl rfl rfl
variable{k:Nat}
theorem ot(h:aH t)(hk:k<t.ap.length):fY t (nth t.ap k).body:=by
 have:=h.chain.mem (nth t.ap k).body (List.mem_map.2 ⟨_,dx hk,rfl⟩);unfold fY;omega
theorem O7(h:aH t)(c:Ck)(hk:k<t.ap.length):Kp t c (ff c k):=fun hc=>by
 refine(show Kp t c (ff c k) from ?_) hc;have hb:fY t (nth c.aa.ap k).body:=by rw[hc];exact ot h hk
 have h1:Kp t c (dD (nth c.aa.ap k).body { c with fn:=(k:Int),vars:=[],more:=[],size:=0 } (nth c.aa.ap k).params 0):=Kp.trans (b:={ c with fn:=(k:Int),vars:=[],more:=[],size:=0 }) (oX rfl rfl rfl) (GS hb _ _ _);unfold ff;simp only;split
 ·exact(h1.trans (EL h (E7 h _) _ hb)).trans (oX rfl rfl rfl)
 ·exact h1.trans (oX rfl rfl rfl)
theorem Cc{t:ax}(h:aH t):∀(n:Nat) (c:Ck) (i:Nat),i+n<=t.ap.length->Kp t c (fj c i n)
 |0,c,i,_=>by unfold fj;exact .refl t c
 |n+1,c,i,hi=>by
  unfold fj;split
  ·exact(O7 h c jB).trans (Cc h n _ _ jB)
  ·exact .refl t c
theorem FR{t:ax}{x:aW}(hx:fY t x.body):∀(l:List aW) (c:Ck),Kp t c (lD x c l)
 |[],c=>by unfold lD;exact .refl t c
 |f::l,c=>by
  unfold lD;refine Kp.trans ?_ (FR hx l _);split
  ·exact qF c 41 hx
  ·exact .refl t c
theorem CU{t:ax}(h:aH t):∀(n:Nat) (c:Ck) (m:Bool) (i:Nat),i+n<=t.ap.length->Kp t c (kF t.ap c m i n).1
 |0,c,m,i,_=>by unfold kF;exact .refl t c
 |n+1,c,m,i,hi=>by
  unfold kF;exact(FR (ot h jB) _ _).trans (CU h n _ _ _ jB)
theorem Le(h:aH t)(c:Ck):Kp t c (iN c):=fun hc=>by
 have h1:Kp t c (kF c.aa.ap c false 0 c.aa.ap.length).1:=by rw[hc];exact CU h _ _ _ _ jB
 refine(show Kp t c (iN c) from ?_) hc;unfold iN;simp only;split
 ·exact h1
 ·refine h1.trans fun hq=>?_
  unfold Ck.aE;split
  ·exact⟨hq,fun _=>.inr (.inl rfl)⟩
  ·exact⟨hq,id⟩
theorem Nx(h:aH t):yW (gU t)/\(gU t).aa=t:=by
 have k:Kp t (iY t) (gU t):=(Le h (iY t)).trans (Cc h _ _ _ jB);exact⟨(k rfl).2 (.inl rfl),(k rfl).1⟩
theorem PY(h:aH t):(gC t).2.2=0\/(gC t).2.2=44\/fY t (gC t).2.1:=by
 obtain⟨a,b⟩:=Nx h;unfold gC;split
 ·rcases a with a|a|a
  ·exact .inl a
  ·exact .inr (.inl a)
  ·rw[b]at a;exact .inr (.inr a)
 ·exact .inl rfl
theorem EE(s:ByteArray)(hs:s.size<=1000000):dV prog 16 [rS s] (.bg [.agg (fB (ga s).1),rI (ga s).2.1,rI (ga s).2.2]):=by
 have hp:=M5 s hs;by_cases h1:(gu s).2.2=0
 ·have ht:=vE h1
  have hk:=Oq (gu s).1 ht;have hat:=PY ht;by_cases h2:(gC (gu s).1).2.2=44
  ·have e:ga s=(kR,0,44):=by unfold ga;rw[if_neg (fun h=>h h1)];simp only;rw[if_pos h2]
   rw[e];refine eQ func16 ntmps16 ?_
   (have W:=jA h1 h2;repeat' (first|refine aA fun K hK=>?_|refine aC ?_|(refine hK _ _ ?_;clear hK K)|(refine aB ?_ ?_<;>intro hc<;>try exact jz)|refine cp (hp) ?_|refine cp (hk) ?_|refine az ?_|exact jI|(clear hK K)));all_goals(try clear W)
   refine lG [.cell 2 29,.tmp 3,.tmp 4] ?_;refine bZ.bg (ds:=[.agg (fB kR),rI _,rI _]) ?_;refine jA (bZ.agg (ds:=fB kR) ?_) (jA (.same _ rfl) (jA (.same _ rfl) trivial));simp only[fB,kR];exact kY
  ·by_cases h3:(gC (gu s).1).2.2=0
   ·have e:ga s=((gC (gu s).1).1,0,0):=by unfold ga;rw[if_neg (fun h=>h h1)];simp only;rw[if_neg h2,if_neg (fun h=>h h3)]
    rw[e];refine eQ func16 ntmps16 ?_
    (have W:=jA h1 h3;repeat' (first|refine aA fun K hK=>?_|refine aC ?_|(refine hK _ _ ?_;clear hK K)|(refine aB ?_ ?_<;>intro hc<;>try exact jz)|refine cp (hp) ?_|refine cp (hk) ?_|refine az ?_|exact jI|(clear hK K)));all_goals(try clear W)
    (refine bH [.cell 2 29,.tmp 3,.tmp 4] ?_;try simp only[go_sem])
   ·have e:ga s=(kR,(nth (gu s).1.nodes (gC (gu s).1).2.1.toNat).cu,(gC (gu s).1).2.2):=by unfold ga;rw[if_neg (fun h=>h h1)];simp only;rw[if_neg h2,if_pos h3]
    obtain⟨hn1,hn2⟩:=(hat.resolve_left h3).resolve_left h2;rw[e];refine eQ func16 ntmps16 ?_
    (have W:=jA h1 (jA h2 (h3));repeat' (first|refine aA fun K hK=>?_|refine aC ?_|(with_reducible refine gR 8 ?_);refine dA 8 [0] [0,1,2,3,4,5,6,7,8,9,10] mixed ?_|(refine hK _ _ ?_;clear hK K)|(refine aB ?_ ?_<;>intro hc<;>try exact jz)|refine cp (hp) ?_|refine cp (hk) ?_|refine az ?_|exact jI|(clear hK K)));all_goals(try clear W)
    refine lG [.cell 2 29,.tmp 3,.tmp 4] ?_;refine bZ.bg (ds:=[.agg (fB kR),rI _,rI _]) ?_;refine jA (bZ.agg (ds:=fB kR) ?_) (jA (.same _ rfl) (jA (.same _ rfl) trivial));simp only[fB,kR];exact kY
 ·have e:ga s=(kR,(gu s).2.1,(gu s).2.2):=by unfold ga;rw[if_pos h1]
  rw[e];refine eQ func16 ntmps16 ?_
  (have W:=h1;repeat' (first|refine aA fun K hK=>?_|refine aC ?_|(refine hK _ _ ?_;clear hK K)|(refine aB ?_ ?_<;>intro hc<;>try exact jz)|refine cp (hp) ?_|refine az ?_|exact jI|(clear hK K)));all_goals(try clear W)
  refine lG [.cell 2 29,.tmp 3,.tmp 4] ?_;refine bZ.bg (ds:=[.agg (fB kR),rI _,rI _]) ?_;refine jA (bZ.agg (ds:=fB kR) ?_) (jA (.same _ rfl) (jA (.same _ rfl) trivial));simp only[fB,kR];exact kY
theorem oP{α:Type}[Inhabited α](l:List α)(i k:Nat)(v:α):nth (l.set i v) k=if i=k/\k<l.length then v else nth l k:=by
 unfold nth;rw[List.getD_eq_getElem?_getD,List.getElem?_set,List.getD_eq_getElem?_getD];by_cases h:i=k
 ·subst h
  by_cases hi:i<l.length
  ·simp[hi]
  ·simp[hi]
 ·simp[h]
structure uq(t:ax)(ty:List Int)(k:Nat):Prop where
 int:(nth t.nodes k).kind=1->nth ty k=1
 bool:(nth t.nodes k).kind=2->nth ty k=2
 text:(nth t.nodes k).kind=3->nth ty k=3
 var:(nth t.nodes k).kind=4->1<=nth ty k/\nth ty k<=4
 index:(nth t.nodes k).kind=5->nth ty k=1/\nth ty (nth (nth t.nodes k).l 0).toNat=1
 len:(nth t.nodes k).kind=6->nth ty k=1/\(nth ty (nth (nth t.nodes k).l 0).toNat=3\/nth ty (nth (nth t.nodes k).l 0).toNat=4)
 neg:(nth t.nodes k).kind=7->nth ty k=1/\nth ty (nth (nth t.nodes k).l 0).toNat=1
 not:(nth t.nodes k).kind=8->nth ty k=2/\nth ty (nth (nth t.nodes k).l 0).toNat=2
 y8:(nth t.nodes k).kind=9->nth ty k=gJ (nth t.nodes k).name (nth ty (nth (nth t.nodes k).l 0).toNat) (nth ty (nth (nth t.nodes k).l 1).toNat)/\nth ty k≠0
 cond:(nth t.nodes k).kind=15\/(nth t.nodes k).kind=16->nth ty (nth (nth t.nodes k).l 0).toNat=2
 call:(nth t.nodes k).kind=21->0<=iF aW.name (nth t.nodes k).name t.ap 0 (-1)/\(nth t.nodes k).l.length=(nth t.ap (iF aW.name (nth t.nodes k).name t.ap 0 (-1)).toNat).params.length
 in_:(nth t.nodes k).kind=19->nth ty k=1
 new:(nth t.nodes k).kind=20->nth ty k=4
 oW:(nth t.nodes k).kind=10->1<=nth ty (nth (nth t.nodes k).l 0).toNat/\nth ty (nth (nth t.nodes k).l 0).toNat<=4
def fL(t:ax)(ty:List Int)(lo hi:Nat):Prop:=∀k,lo<=k->k<hi->uq t ty k
def Tw(lo hi:Nat)(c c':Ck):Prop:=∀k,(k<lo\/hi<=k)->nth c'.types k=nth c.types k
variable{lo hi:Nat}{L:List Int}
theorem _root_.Go.Gd.aG.closed{t:List bh}(h:aG t lo L hi):∀k,lo<=k->k<hi->∀a∈(nth t k).l,lo<=a.toNat:=by
 induction h with
 |nil=>intro k h1 h2;omega
 |@cons lo c hi L hc h1 h2 i1 i2=>
  intro k hk1 hk2 a ha;have l1:=h1.le;by_cases h:k<c
  ·exact i1 k hk1 h a ha
  by_cases h':k=c
  ·subst h'
   exact(h1.mem a ha).2.1
  ·have:=i2 k jB hk2 a ha
   omega
variable{ty:List Int}
theorem uq.aX(h:aH t){ty':List Int}(hk:k<t.nodes.length)(hlo:lo<=k)(hc:∀a∈(nth t.nodes k).l,lo<=a.toNat)(he:∀i,lo<=i->i<=k->nth ty' i=nth ty i)(x:uq t ty k):uq t ty' k:=by
 have hm:=(h.shape k hk).2.1;have sh:=(h.shape k hk).1;have e0:=he k hlo jl;have ea:∀i,i<(nth t.nodes k).l.length->nth ty' (nth (nth t.nodes k).l i).toNat=nth ty (nth (nth t.nodes k).l i).toNat:=fun i hi=>by
  have hmem:=dx hi;have:=hm _ hmem;exact he _ (hc _ hmem) jB
 refine⟨fun e=>by rw[e0];exact x.int e,fun e=>by rw[e0];exact x.bool e,fun e=>by rw[e0];exact x.text e,fun e=>by rw[e0];exact x.var e,fun e=>?_,fun e=>?_,fun e=>?_,fun e=>?_,fun e=>?_,fun e=>?_,x.call,fun e=>by rw[e0];exact x.in_ e,fun e=>by rw[e0];exact x.new e,fun e=>?_⟩
 ·obtain⟨a,hl,_⟩:=sh.one jB
  rw[e0,ea 0 (by rw[hl];simp)];exact x.index e
 ·obtain⟨a,hl,_⟩:=sh.one jB
  rw[e0,ea 0 (by rw[hl];simp)];exact x.len e
 ·obtain⟨a,hl,_⟩:=sh.one jB
  rw[e0,ea 0 (by rw[hl];simp)];exact x.neg e
 ·obtain⟨a,hl,_⟩:=sh.one jB
  rw[e0,ea 0 (by rw[hl];simp)];exact x.not e
 ·obtain⟨a,b,hl,_⟩:=sh.two jB
  rw[e0,ea 0 (by rw[hl];simp),ea 1 (by rw[hl];simp)];exact x.y8 e
 ·have hl:0<(nth t.nodes k).l.length:=by
   rcases e with e|e
   ·obtain⟨a,b,_,_,hl|⟨d,hl,_⟩⟩:=sh.kg e<;>rw[hl]<;>simp
   ·obtain⟨a,b,hl,_⟩:=sh.dK e;rw[hl];simp
  rw[ea 0 hl];exact x.cond e
 ·obtain⟨a,hl,_⟩:=sh.right jB
  rw[ea 0 (by rw[hl];simp)];exact x.oW e
theorem fL.aX{t:ax}(h:aH t){ty ty':List Int}{lo hi:Nat}{L:List Int}(hc:aG t.nodes lo L hi)(hl:hi<=t.nodes.length)(he:∀i,lo<=i->i<hi->nth ty' i=nth ty i)(x:fL t ty lo hi):fL t ty' lo hi:=fun k h1 h2=>
 (x k h1 h2).aX h jB h1 (hc.closed k h1 h2) fun i g1 g2=>he i g1 jB
theorem fL.join{eT:Nat}(x:fL t ty lo eT)(y:fL t ty eT hi):fL t ty lo hi:=fun k h1 h2=>by
 by_cases h:k<eT
 ·exact x k h1 h
 ·exact y k jB h2
theorem fL.none:fL t ty lo lo:=fun k h1 h2=>jB
theorem Tw.refl(lo hi:Nat)(c:Ck):Tw lo hi c c:=fun _ _=>rfl
theorem Tw.same{c:Ck}(h:c'.types=c.types):Tw lo hi c c':=fun _ _=>by rw[h]
theorem Tw.trans{lo hi:Nat}{a b c:Ck}(h:Tw lo hi a b)(k:Tw lo hi b c):Tw lo hi a c:=fun i hi=>(k i hi).trans (h i hi)
theorem Tw.mono{lo' hi':Nat}{a:Ck}(h:Tw lo hi a b)(h1:lo'<=lo)(h2:hi<=hi'):Tw lo' hi' a b:=fun i hi=>h i jB
theorem zh(c:Ck)(e a:Int):(c.aE e a).types=c.types:=by unfold Ck.aE;split<;>rfl
theorem jY(c:Ck)(b:Bool)(a:Int):(c.aq b a).types=c.types:=by unfold Ck.aq;split;rfl;exact zh _ _ _
theorem gS{c:Ck}{b:Bool}(h:(c.aq b a).e=0):b=true/\c.e=0:=by
 unfold Ck.aq at h;split at h
 ·exact⟨by assumption,h⟩
 ·exfalso
  unfold Ck.aE at h;split at h
  ·cases h
  ·contradiction
theorem lJ{c:Ck}{e:Int}(he:e≠0)(h:(c.aE e a).e=0):False:=by
 unfold Ck.aE at h;split at h
 ·exact he h
 ·contradiction
theorem xv(c:Ck)(a:Int):(c.named a).1.types=c.types:=by unfold Ck.named;split;exact zh _ _ _;rfl
def bP(c:Ck):Prop:=∀v∈c.vars,1<=v.ty/\v.ty<=4
theorem bP.ev{c:Ck}(h:bP c)(s:Ev c c'):bP c':=by unfold bP;rw[s.vars];exact h
theorem KG{c:Ck}(h:bP c)(he:(c.named a).1.e=0):1<=(c.named a).2/\(c.named a).2<=4:=by
 unfold Ck.named at he ⊢;split
 ·rename_i hf
  rw[if_pos hf]at he;exact(lJ jC he).elim
 ·rename_i hf
  rcases vW bC.name (c.node a).name c.vars 0 jB with⟨h1,_⟩|h1
  ·exact(hf (by show fX bC.name (c.node a).name c.vars 0<0;rw[h1];decide)).elim
  ·exact h _ (dx (by show(fX bC.name (c.node a).name c.vars 0).toNat<_;omega))
theorem Ev.e0{c:Ck}(s:Ev c c')(h:c'.e=0):c.e=0:=Classical.byContradiction fun e=>s.err e h
structure fP(t:ax)(lo hi:Nat)(c c':Ck):Prop where
 tw:Tw lo hi c c'
 all:fL t c'.types lo hi
theorem fP.post{a c:Ck}(h:fP t lo hi a b)(e:c.types=b.types):fP t lo hi a c:=⟨h.tw.trans (.same e),by rw[e];exact h.all⟩
theorem fP.pre{a c:Ck}(e:b.types=a.types)(h:fP t lo hi b c):fP t lo hi a c:=⟨(Tw.same e).trans h.tw,h.all⟩
theorem fP.seq(ht:aH t){eT:Nat}{a c:Ck}(hc:aG t.nodes lo L eT)(hl:eT<=t.nodes.length)(h1:eT<=hi)(h:fP t lo eT a b)(k:fP t eT hi b c):fP t lo hi a c:=
 ⟨(h.tw.mono jl h1).trans (k.tw.mono hc.le jl),(h.all.aX ht hc hl fun i _ h2=>k.tw i (.inl h2)).join k.all⟩
def Ab(t:ax)(n:Nat):Prop:=∀(c:Ck) (a:Int) (lo:Nat),bv c->c.aa=t->bP c->0<=a->a<t.nodes.length->a.toNat<n->dM (bs t.nodes a)->aG t.nodes lo (nth t.nodes a.toNat).l a.toNat->(ar n c a).1.e=0->
 fP t lo (a.toNat+1) c (ar n c a).1/\nth (ar n c a).1.types a.toNat=(ar n c a).2/\0<=(ar n c a).2/\(ar n c a).2<=4
theorem je{t:List bh}(h:aG t lo [a] hi):0<=a/\a<t.length/\lo<=a.toNat/\hi=a.toNat+1/\aG t lo (nth t a.toNat).l a.toNat:=by
 cases h with
 |cons hc h1 h2=>
  cases h2;exact⟨jB,jB,by have:=h1.le;simpa using this,jE,by simpa using h1⟩
theorem gZ{t:List bh}(h:aG t lo (a::L) hi):0<=a/\a<t.length/\lo<=a.toNat/\a.toNat+1<=hi/\aG t lo (nth t a.toNat).l a.toNat/\aG t (a.toNat+1) L hi:=by
 cases h with
 |cons hc h1 h2=>exact⟨jB,jB,by have:=h1.le;simpa using this,by have:=h2.le;simpa using this,by simpa using h1,by simpa using h2⟩
theorem aG.j5{t:List bh}(h0:0<=a)(h1:a<t.length)(h:aG t lo (nth t a.toNat).l a.toNat):aG t lo [a] (a.toNat+1):=by
 have e:a=((a.toNat:Nat):Int):=jB
 rw[e];exact aG.one jB (by simpa using h)
theorem Bs{t:ax}(ht:aH t){n:Nat}(hx:Ab t n):∀(L:List Int) (c:Ck) (ts:List Int) (lo hi:Nat),bv c->c.aa=t->bP c->hi<=n->hi<=t.nodes.length->(∀x∈L,dM (bs t.nodes x))->aG t.nodes lo L hi->(fA (ar n) c L ts).1.e=0->fP t lo hi c (fA (ar n) c L ts).1
 |[],c,ts,lo,hi,h,hc,hv,hn,hl,hr,hch,he=>by
  cases hch;unfold fA;exact⟨.refl _ _ _,.none⟩
 |a::L,c,ts,lo,hi,h,hc,hv,hn,hl,hr,hch,he=>by
  have e0:=(qV (dp n) (a::L) c ts).e0 he;unfold fA at he ⊢;rw[if_pos e0]at he ⊢;obtain⟨c1,c2,c3,c4,c5,c6⟩:=gZ hch;have ev:=dp n c a;have e1:=(qV (dp n) L _ _).e0 he;have r1:=(hx c a lo h hc hv c1 c2 jB (hr a jE) c5 e1).1;exact r1.seq ht (aG.j5 c1 c2 c5) jB jB (Bs ht hx L _ _ _ hi (h.ev ev) (ev.aa.trans hc) (hv.ev ev) hn hl (fun x hx=>hr x (by simp[hx])) c6 he)
theorem BY(a:Int):∀(ts:List Int) (ps:List bD) (c:Ck),(gx a c ts ps).types=c.types
 |[],ps,c=>by rw[rD]
 |_::_,[],c=>by rw[sj]
 |x::ts,p::ps,c=>by
  unfold gx;split
  ·rw[BY a ts ps _];exact jY _ _ _
  ·rfl
variable{n:Nat}
theorem Iv(ht:aH t)(hx:Ab t n){c:Ck}(h:bv c)(hc:c.aa=t)(hv:bP c)(h0:0<=a)(h1:a<t.nodes.length)(hn:a.toNat<=n)(hk:(nth t.nodes a.toNat).kind=21)(hch:aG t.nodes lo (nth t.nodes a.toNat).l a.toNat)(he:(gh (ar n) c a).1.e=0) :
  fP t lo a.toNat c (gh (ar n) c a).1/\(0<=(gh (ar n) c a).2/\(gh (ar n) c a).2<=4)/\0<=iF aW.name (nth t.nodes a.toNat).name t.ap 0 (-1)/\(nth t.nodes a.toNat).l.length=(nth t.ap (iF aW.name (nth t.nodes a.toNat).name t.ap 0 (-1)).toNat).params.length:=by
 have hnode:c.node a=nth t.nodes a.toNat:=by unfold Ck.node;rw[hc]
 have hcall:=(ht.shape a.toNat jB).1.call hk;unfold gh at he ⊢;split at he
 ·exact(lJ jC he).elim
 rename_i hf;rw[if_neg hf];simp only at he ⊢;have e1:=(xQ a _ _ _).e0 he;split at e1
 ·exact(lJ jC e1).elim
 rename_i hl;rw[if_neg hl];have r:=Bs ht hx (c.node a).l c [] lo a.toNat h hc hv hn jB (fun x hx'=>.inl (hcall x (by rw[<-hnode];exact hx'))) (by rw[hnode];exact hch) e1;have hcal:fb c a=iF aW.name (nth t.nodes a.toNat).name t.ap 0 (-1):=by unfold fb;rw[hnode,hc]
 refine⟨r.post (BY _ _ _ _),?_,by rw[<-hcal];omega,by rw[<-hcal,<-hnode,<-hc];omega⟩;have hfn:(nth c.aa.ap (fb c a).toNat)∈c.aa.ap\/(nth c.aa.ap (fb c a).toNat)=default:=by
  by_cases hi:(fb c a).toNat<c.aa.ap.length
  ·exact .inl (dx hi)
  ·exact .inr (Fk (Nat.le_of_not_lt hi))
 rcases hfn with hfn|hfn
 ·exact(ht.fn _ (by rw[<-hc];exact hfn)).1.ret
 ·rw[hfn];decide
theorem L0(s:ByteArray)(a b:Int):0<=gJ s a b/\gJ s a b<=4:=by
 unfold gJ;repeat' split
 all_goals omega
theorem Oh(ht:aH t){c:Ck}{T:Int}(hl:c'.types.length=t.nodes.length)(h0:0<=a)(h1:a<t.nodes.length)(hch:aG t.nodes lo (nth t.nodes a.toNat).l a.toNat)(r:fP t lo a.toNat c c')(hT:uq t (c'.types.set a.toNat T) a.toNat) :
  fP t lo (a.toNat+1) c (c'.note a T)/\nth (c'.note a T).types a.toNat=T:=by
 have hs:∀k,nth (c'.note a T).types k=if a.toNat=k/\k<c'.types.length then T else nth c'.types k:=fun k=>oP _ _ _ _
 refine⟨⟨fun k hk=>?_,?_⟩,by rw[hs,if_pos ⟨rfl,jB⟩]⟩
 ·have hlo:=hch.le
  rw[hs,jN];exact r.tw k jB
 ·refine(r.all.aX ht hch jB fun i _ h2=>by rw[hs,jN]).join fun k g1 g2=>?_
  have:k=a.toNat:=jB
  subst this;exact hT
theorem tK{t:ax}(ht:aH t):∀n,Ab t n
 |0=>fun c a lo h hc hv h0 h1 hn=>by omega
 |n+1=>fun c a lo h hc hv h0 h1 hn hr hch he=>by
  have hx:=tK ht n;have e0:=(dp (n+1) c a).e0 he;unfold ar at he ⊢;rw[jN]at he ⊢;simp only at he ⊢;have he:(bU (ar n) c a).1.e=0:=he;have hnode:c.node a=nth t.nodes a.toNat:=by unfold Ck.node;rw[hc]
  have sh:=(ht.shape a.toNat jB).1;have hlen:(bU (ar n) c a).1.types.length=t.nodes.length:=by rw[(zM (dp n) c a).types,h.types,hc]
  -- what is to be shown of the node itself
  suffices hs:fP t lo a.toNat c (bU (ar n) c a).1/\uq t ((bU (ar n) c a).1.types.set a.toNat (bU (ar n) c a).2) a.toNat/\0<=(bU (ar n) c a).2/\(bU (ar n) c a).2<=4 by
   obtain⟨s1,s2,s3⟩:=hs;obtain⟨g1,g2⟩:=Oh ht hlen h0 h1 hch s1 s2;exact⟨g1,g2,s3⟩
  have hset:∀T,nth ((bU (ar n) c a).1.types.set a.toNat T) a.toNat=T:=fun T=>by rw[oP,if_pos ⟨rfl,jB⟩]
  have hoth:∀T k,k≠a.toNat->nth ((bU (ar n) c a).1.types.set a.toNat T) k=nth (bU (ar n) c a).1.types k:=fun T k hk=>by rw[oP,jN]
  have leaf:(nth t.nodes a.toNat).l=[]->∀c',c'.types=c.types->fP t lo a.toNat c c':=fun hl c' e=>by
   rw[hl]at hch;have:lo=a.toNat:=by cases hch;rfl
   subst this;exact⟨.same e,.none⟩
  have kid1:∀c0 x,bv c0->c0.aa=t->bP c0->c0.types=c.types->(nth t.nodes a.toNat).l=[x]->dM (bs t.nodes x)->(ar n c0 x).1.e=0->fP t lo a.toNat c (ar n c0 x).1/\nth (ar n c0 x).1.types x.toNat=(ar n c0 x).2/\x.toNat≠a.toNat:=fun c0 x g1 g2 g3 g4 hl hxr hxe=>by
   rw[hl]at hch;obtain⟨c1,c2,c3,c4,c5⟩:=je hch;obtain⟨r1,r2,_⟩:=hx c0 x lo g1 g2 g3 c1 c2 jB hxr c5 hxe;rw[c4];exact⟨r1.pre g4,r2,jB⟩
  have kd:∀i,c.aw a i=nth (nth t.nodes a.toNat).l i:=fun i=>by unfold Ck.aw;rw[hnode]
  have hkr:(nth t.nodes a.toNat).kind=1\/(nth t.nodes a.toNat).kind=2\/(nth t.nodes a.toNat).kind=3\/(nth t.nodes a.toNat).kind=4\/(nth t.nodes a.toNat).kind=5\/(nth t.nodes a.toNat).kind=6\/(nth t.nodes a.toNat).kind=7\/(nth t.nodes a.toNat).kind=8\/(nth t.nodes a.toNat).kind=9\/(nth t.nodes a.toNat).kind=19\/(nth t.nodes a.toNat).kind=20\/(nth t.nodes a.toNat).kind=21:=by
   have:dM (nth t.nodes a.toNat).kind:=hr;unfold dM bO at this;omega
  rcases hkr with k|k|k|k|k|k|k|k|k|k|k|k
  ·have e:bU (ar n) c a=(c,1):=by unfold bU;simp only;rw[hnode,k];rfl
   rw[e]at hset ⊢;refine⟨leaf (sh.zero jB) _ rfl,?_,jE,jE⟩;constructor<;>intro k'<;>first|omega|exact hset _
  ·have e:bU (ar n) c a=(c,2):=by unfold bU;simp only;rw[hnode,k];rfl
   rw[e]at hset ⊢;refine⟨leaf (sh.zero jB) _ rfl,?_,jE,jE⟩;constructor<;>intro k'<;>first|omega|exact hset _
  ·have e:bU (ar n) c a=(c,3):=by unfold bU;simp only;rw[hnode,k];rfl
   rw[e]at hset ⊢;refine⟨leaf (sh.zero jB) _ rfl,?_,jE,jE⟩;constructor<;>intro k'<;>first|omega|exact hset _
  ·have e:bU (ar n) c a=c.named a:=by unfold bU;simp only;rw[hnode,k];rfl
   rw[e]at hset he ⊢;have hty:=KG hv he;refine⟨leaf (sh.zero jB) _ (xv c a),?_,jB,jB⟩;constructor<;>intro k'<;>first|omega|(rw[hset];exact hty)
  ·have e:bU (ar n) c a=((ar n (c.named a).1 (c.aw a 0)).1.aq (decide ((c.named a).2=4) && decide ((ar n (c.named a).1 (c.aw a 0)).2=1)) a,1):=by unfold bU;simp only;rw[hnode,k];rfl
   obtain⟨x,hl,hxe⟩:=sh.one jB;have hk0:c.aw a 0=x:=by rw[kd,hl];rfl
   rw[e]at hset hoth he ⊢;rw[hk0]at hset hoth he ⊢;obtain⟨b1,b2⟩:=gS he;simp only[Bool.and_eq_true,decide_eq_true_eq]at b1;have ev:=l8 c a;obtain⟨r1,r2,r3⟩:=kid1 (c.named a).1 x (h.ev ev) (ev.aa.trans hc) (hv.ev ev) (xv c a) hl (.inl hxe) b2;refine⟨r1.post (jY _ _ _),?_,jE,jE⟩;constructor<;>intro k'<;>first|omega|skip
   refine⟨hset _,?_⟩;rw[hl];show nth (List.set _ _ _) x.toNat=1;rw[hoth _ _ r3];show nth (Ck.aq _ _ _).types x.toNat=1;rw[jY,r2];exact b1.2
  ·have e:bU (ar n) c a=((ar n c (c.aw a 0)).1.aq (decide ((ar n c (c.aw a 0)).2=3) || decide ((ar n c (c.aw a 0)).2=4)) a,1):=by unfold bU;simp only;rw[hnode,k];rfl
   obtain⟨x,hl,hxe⟩:=sh.one jB;have hk0:c.aw a 0=x:=by rw[kd,hl];rfl
   rw[e]at hset hoth he ⊢;rw[hk0]at hset hoth he ⊢;obtain⟨b1,b2⟩:=gS he;simp only[Bool.or_eq_true,decide_eq_true_eq]at b1;obtain⟨r1,r2,r3⟩:=kid1 c x h hc hv rfl hl (.inl hxe) b2;refine⟨r1.post (jY _ _ _),?_,jE,jE⟩;constructor<;>intro k'<;>first|omega|skip
   refine⟨hset _,?_⟩;rw[hl];show nth (List.set _ _ _) x.toNat=3\/nth (List.set _ _ _) x.toNat=4;rw[hoth _ _ r3];show nth (Ck.aq _ _ _).types x.toNat=3\/nth (Ck.aq _ _ _).types x.toNat=4;rw[jY,r2];exact b1
  ·have e:bU (ar n) c a=((ar n c (c.aw a 0)).1.aq (decide ((ar n c (c.aw a 0)).2=1)) a,1):=by unfold bU;simp only;rw[hnode,k];rfl
   obtain⟨x,hl,hxe⟩:=sh.one jB;have hk0:c.aw a 0=x:=by rw[kd,hl];rfl
   rw[e]at hset hoth he ⊢;rw[hk0]at hset hoth he ⊢;obtain⟨b1,b2⟩:=gS he;simp only[decide_eq_true_eq]at b1;obtain⟨r1,r2,r3⟩:=kid1 c x h hc hv rfl hl (.inl hxe) b2;refine⟨r1.post (jY _ _ _),?_,jE,jE⟩;constructor<;>intro k'<;>first|omega|skip
   refine⟨hset _,?_⟩;rw[hl];show nth (List.set _ _ _) x.toNat=1;rw[hoth _ _ r3];show nth (Ck.aq _ _ _).types x.toNat=1;rw[jY,r2];exact b1
  ·have e:bU (ar n) c a=((ar n c (c.aw a 0)).1.aq (decide ((ar n c (c.aw a 0)).2=2)) a,2):=by unfold bU;simp only;rw[hnode,k];rfl
   obtain⟨x,hl,hxe⟩:=sh.one jB;have hk0:c.aw a 0=x:=by rw[kd,hl];rfl
   rw[e]at hset hoth he ⊢;rw[hk0]at hset hoth he ⊢;obtain⟨b1,b2⟩:=gS he;simp only[decide_eq_true_eq]at b1;obtain⟨r1,r2,r3⟩:=kid1 c x h hc hv rfl hl (.inl hxe) b2;refine⟨r1.post (jY _ _ _),?_,jE,jE⟩;constructor<;>intro k'<;>first|omega|skip
   refine⟨hset _,?_⟩;rw[hl];show nth (List.set _ _ _) x.toNat=2;rw[hoth _ _ r3];show nth (Ck.aq _ _ _).types x.toNat=2;rw[jY,r2];exact b1
  ·have e:bU (ar n) c a=((ar n (ar n c (c.aw a 0)).1 (c.aw a 1)).1.aq (!decide (gJ (c.node a).name (ar n c (c.aw a 0)).2 (ar n (ar n c (c.aw a 0)).1 (c.aw a 1)).2=0)) a,gJ (c.node a).name (ar n c (c.aw a 0)).2 (ar n (ar n c (c.aw a 0)).1 (c.aw a 1)).2):=by unfold bU;simp only;rw[hnode,k];rfl
   obtain⟨x,y,hl,hxe,hye⟩:=sh.two jB;have hk0:c.aw a 0=x:=by rw[kd,hl];rfl
   have hk1:c.aw a 1=y:=by rw[kd,hl];rfl
   rw[e]at hset hoth he ⊢;rw[hk0,hk1]at hset hoth he ⊢;obtain⟨b1,b2⟩:=gS he;simp only[Bool.not_eq_true',decide_eq_false_iff_not]at b1;have ev:=dp n c x;have b0:(ar n c x).1.e=0:=(dp n _ y).e0 b2;rw[hl]at hch;obtain⟨c1,c2,c3,c4,c5,c6⟩:=gZ hch;obtain⟨d1,d2,d3,d4,d5⟩:=je c6;obtain⟨r1,r2,_⟩:=hx c x lo h hc hv c1 c2 jB (.inl hxe) c5 b0;obtain⟨q1,q2,_⟩:=hx (ar n c x).1 y (x.toNat+1) (h.ev ev) (ev.aa.trans hc) (hv.ev ev) d1 d2 jB (.inl hye) d5 b2;have rr:=r1.seq ht (aG.j5 c1 c2 c5) jB jB q1;rw[d4];refine⟨rr.post (jY _ _ _),?_,L0 _ _ _⟩;rw[d4]at hset hoth;rw[<-d4];rw[<-d4]at hset hoth;have ex:nth ((ar n (ar n c x).1 y).1.types) x.toNat=(ar n c x).2:=by rw[q1.tw _ jB,r2]
   constructor<;>intro k'<;>first|omega|skip
   have g0:=hset (gJ (c.node a).name (ar n c x).2 (ar n (ar n c x).1 y).2);have g1:=hoth (gJ (c.node a).name (ar n c x).2 (ar n (ar n c x).1 y).2) x.toNat jB;have g2:=hoth (gJ (c.node a).name (ar n c x).2 (ar n (ar n c x).1 y).2) y.toNat jB;simp only[jY]at g0 g1 g2 ⊢;rw[hl];show _=gJ _ (nth _ x.toNat) (nth _ y.toNat)/\_;rw[g0,g1,g2,ex,q2,<-hnode];exact⟨rfl,b1⟩
  ·have e:bU (ar n) c a=(c,1):=by unfold bU;simp only;rw[hnode,k];rfl
   rw[e]at hset ⊢;refine⟨leaf (sh.zero jB) _ rfl,?_,jE,jE⟩;constructor<;>intro k'<;>first|omega|exact hset _
  ·have e:bU (ar n) c a=((ar n c (c.aw a 0)).1.aq (decide ((ar n c (c.aw a 0)).2=1)) a,4):=by unfold bU;simp only;rw[hnode,k];rfl
   obtain⟨x,hl,hxe⟩:=sh.one jB;have hk0:c.aw a 0=x:=by rw[kd,hl];rfl
   rw[e]at hset he ⊢;rw[hk0]at hset he ⊢;obtain⟨b1,b2⟩:=gS he;obtain⟨r1,r2,r3⟩:=kid1 c x h hc hv rfl hl (.inl hxe) b2;refine⟨r1.post (jY _ _ _),?_,jE,jE⟩;constructor<;>intro k'<;>first|omega|exact hset _
  ·have e:bU (ar n) c a=gh (ar n) c a:=by unfold bU;simp only;rw[hnode,k];rfl
   rw[e]at he ⊢;obtain⟨r1,r2,r3⟩:=Iv ht hx h hc hv h0 h1 jB k hch he;refine⟨r1,?_,r2⟩;constructor<;>intro k'<;>first|omega|exact r3
theorem fP.skip{c:Ck}(hk:dv (bs t.nodes a)\/bs t.nodes a=18)(hcd:(nth t.nodes a.toNat).kind=15\/(nth t.nodes a.toNat).kind=16\/(nth t.nodes a.toNat).kind=10->((nth t.nodes a.toNat).kind=10\/nth c'.types (nth (nth t.nodes a.toNat).l 0).toNat=2)/\1<=nth c'.types (nth (nth t.nodes a.toNat).l 0).toNat/\nth c'.types (nth (nth t.nodes a.toNat).l 0).toNat<=4)(r:fP t lo a.toNat c c'):fP t lo (a.toNat+1) c c':=by
 refine⟨r.tw.mono jl jB,fun k h1 h2=>?_⟩;by_cases h:k<a.toNat
 ·exact r.all k h1 h
 ·have:k=a.toNat:=jB
  subst this;have hk:dv (nth t.nodes a.toNat).kind\/(nth t.nodes a.toNat).kind=18:=hk;unfold dv at hk;constructor<;>intro k'<;>first|omega|exact(hcd jB).1.resolve_left jB|exact(hcd jB).2
def Hb(t:ax)(n:Nat):Prop:=∀(c:Ck) (a:Int) (lo:Nat),bv c->c.aa=t->bP c->c.e=0->0<=a->a<t.nodes.length->a.toNat<n->dv (bs t.nodes a)->aG t.nodes lo (nth t.nodes a.toNat).l a.toNat->(bu n c a).e=0->
 fP t lo (a.toNat+1) c (bu n c a)/\bP (bu n c a)
theorem Sv.e0{c:Ck}(s:Sv c c')(h:c'.e=0):c.e=0:=Classical.byContradiction fun e=>s.err e h
theorem vD{t:ax}(ht:aH t){st:Ck->Int->Ck}{C:Int->Prop}{n:Nat}(hs:∀c a,bv c->c.e=0->Sv c (st c a))
  (hst:∀(c:Ck) (a:Int) (lo:Nat),bv c->c.aa=t->bP c->c.e=0->0<=a->a<t.nodes.length->a.toNat<n->C (bs t.nodes a)->aG t.nodes lo (nth t.nodes a.toNat).l a.toNat->(st c a).e=0->fP t lo (a.toNat+1) c (st c a)/\bP (st c a)) :
  ∀(L:List Int) (c:Ck) (lo hi:Nat),bv c->c.aa=t->bP c->hi<=n->hi<=t.nodes.length->(∀x∈L,C (bs t.nodes x))->aG t.nodes lo L hi->(cY st c L).e=0->fP t lo hi c (cY st c L)/\bP (cY st c L)
 |[],c,lo,hi,h,hc,hv,hn,hl,hr,hch,he=>by
  cases hch;unfold cY;exact⟨⟨.refl _ _ _,.none⟩,hv⟩
 |a::L,c,lo,hi,h,hc,hv,hn,hl,hr,hch,he=>by
  have e0:=(nL hs (a::L) c h).e0 he;unfold cY at he ⊢;rw[if_pos e0]at he ⊢;obtain⟨c1,c2,c3,c4,c5,c6⟩:=gZ hch;have s:=hs c a h e0;have e1:=(nL hs L _ s.inv).e0 he;obtain⟨r1,v1⟩:=hst c a lo h hc hv e0 c1 c2 jB (hr a jE) c5 e1;obtain⟨r2,v2⟩:=vD ht hs hst L _ _ hi s.inv (s.aa.trans hc) v1 hn hl (fun x hx=>hr x (by simp[hx])) c6 he;exact⟨r1.seq ht (aG.j5 c1 c2 c5) jB jB r2,v2⟩
theorem yo(ht:aH t)(hst:Hb t n)(c:Ck)(a:Int)(lo:Nat)(h:bv c)(hc:c.aa=t)(hv:bP c)(h0:0<=a)(h1:a<t.nodes.length)(hn:a.toNat<=n)(hk:bs t.nodes a=18)(hch:aG t.nodes lo (nth t.nodes a.toNat).l a.toNat)(he:(dR (bu n) c a).e=0) :
  fP t lo (a.toNat+1) c (dR (bu n) c a)/\bP (dR (bu n) c a):=by
 have sv:=oz (kK n) h a;have hnode:c.node a=nth t.nodes a.toNat:=by unfold Ck.node;rw[hc]
 have hb:=(ht.shape a.toNat jB).1.block hk;have ev:=pe c a;obtain⟨r,_⟩:=vD ht (kK n) (C:=dv) hst (c.node a).l (c.ac a) lo a.toNat (h.ev ev) (ev.aa.trans hc) (hv.ev ev) hn jB (fun x hx=>hb x (by rw[<-hnode];exact hx)) (by rw[hnode];exact hch) he;have r:fP t lo a.toNat c (dR (bu n) c a):=fP.post (b:=cY (bu n) (c.ac a) (c.node a).l) (fP.pre (a:=c) (b:=c.ac a) rfl r) rfl;have hk18:(nth t.nodes a.toNat).kind=18:=hk;refine⟨r.skip (.inr hk) (fun h=>jB),?_⟩;unfold bP;rw[sv.2];exact hv
theorem wv(ht:aH t){c c0:Ck}{x:Int}(h:bv c0)(hc:c0.aa=t)(hv:bP c0)(hty:c0.types=c.types)(hn:a.toNat<=n)(hl:(nth t.nodes a.toNat).l=[x])(hx:dM (bs t.nodes x))(hch:aG t.nodes lo (nth t.nodes a.toNat).l a.toNat)(he:(ar n c0 x).1.e=0) :
  fP t lo a.toNat c (ar n c0 x).1/\0<=(ar n c0 x).2/\(ar n c0 x).2<=4/\nth (ar n c0 x).1.types x.toNat=(ar n c0 x).2:=by
 rw[hl]at hch;obtain⟨c1,c2,c3,c4,c5⟩:=je hch;obtain⟨r1,r2,r3⟩:=tK ht n c0 x lo h hc hv c1 c2 jB hx c5 he;rw[c4];exact⟨r1.pre hty,r3.1,r3.2,r2⟩
theorem LB(ht:aH t){c c0:Ck}{x y:Int}(h:bv c0)(hc:c0.aa=t)(hv:bP c0)(hty:c0.types=c.types)(hn:a.toNat<=n)(hl:(nth t.nodes a.toNat).l=[x,y])(hx:bO (bs t.nodes x))(hy:bO (bs t.nodes y))(hch:aG t.nodes lo (nth t.nodes a.toNat).l a.toNat)(hle:a.toNat<=t.nodes.length)(he:(ar n (ar n c0 x).1 y).1.e=0) :
  fP t lo a.toNat c (ar n (ar n c0 x).1 y).1:=by
 rw[hl]at hch;obtain⟨c1,c2,c3,c4,c5,c6⟩:=gZ hch;obtain⟨d1,d2,d3,d4,d5⟩:=je c6;have ev:=dp n c0 x;obtain⟨r1,_⟩:=tK ht n c0 x lo h hc hv c1 c2 jB (.inl hx) c5 ((dp n _ y).e0 he);obtain⟨q1,_⟩:=tK ht n (ar n c0 x).1 y (x.toNat+1) (h.ev ev) (ev.aa.trans hc) (hv.ev ev) d1 d2 jB (.inl hy) d5 he;rw[d4];exact(r1.seq ht (aG.j5 c1 c2 c5) jB jB q1).pre hty
theorem tM{c:Ck}{p:Prop}[Decidable p]{e:Int}(he:e≠0)(h:(if p then c.aE e a else c).e=0):¬p/\(if p then c.aE e a else c)=c:=by
 split at h
 ·exact(lJ he h).elim
 ·rename_i hp
  exact⟨hp,if_neg hp⟩
theorem un{t:ax}(ht:aH t):∀n,Hb t n
 |0=>fun c a lo h hc hv e0 h0 h1 hn=>by omega
 |n+1=>fun c a lo h hc hv e0 h0 h1 hn hr hch he=>by
  have hs:=un ht n;have hnode:(c.ac a).node a=nth t.nodes a.toNat:=by unfold Ck.node;show nth c.aa.nodes _=_;rw[hc]
  have sh:=(ht.shape a.toNat jB).1;have kd:∀i,(c.ac a).aw a i=nth (nth t.nodes a.toNat).l i:=fun i=>by unfold Ck.aw;rw[hnode]
  have ev:=pe c a;have h':=h.ev ev;have hc':=ev.aa.trans hc;have hv':=hv.ev ev;suffices hsf:fP t lo a.toNat c (bu (n+1) c a)/\bP (bu (n+1) c a)/\((nth t.nodes a.toNat).kind=15\/(nth t.nodes a.toNat).kind=16\/(nth t.nodes a.toNat).kind=10->((nth t.nodes a.toNat).kind=10\/nth (bu (n+1) c a).types (nth (nth t.nodes a.toNat).l 0).toNat=2)/\1<=nth (bu (n+1) c a).types (nth (nth t.nodes a.toNat).l 0).toNat/\nth (bu (n+1) c a).types (nth (nth t.nodes a.toNat).l 0).toNat<=4) from⟨hsf.1.skip (.inl hr) hsf.2.2,hsf.2.1⟩
  have hkr:(nth t.nodes a.toNat).kind=10\/(nth t.nodes a.toNat).kind=11\/(nth t.nodes a.toNat).kind=12\/(nth t.nodes a.toNat).kind=13\/(nth t.nodes a.toNat).kind=14\/(nth t.nodes a.toNat).kind=17\/(nth t.nodes a.toNat).kind=15\/(nth t.nodes a.toNat).kind=16:=by
   have:dv (nth t.nodes a.toNat).kind:=hr;unfold dv at this;omega
  rcases hkr with k|k|k|k|k|k|k
  ·have e:bu (n+1) c a=oj (ar n) (c.ac a) a:=by unfold bu;simp only;rw[hnode,k];rfl
   obtain⟨x,hl,hxr⟩:=sh.right jB;have hk0:(c.ac a).aw a 0=x:=by rw[kd,hl];rfl
   rw[e]at he ⊢;rw[sD]at he ⊢;have he:(dq (ar n) (c.ac a) a).e=0:=he;obtain⟨_,q1⟩:=tM jC he;have q1:dq (ar n) (c.ac a) a=iB (ar n) (c.ac a) a:=q1;rw[q1]at he;obtain⟨_,q2⟩:=tM jC he;have q2:iB (ar n) (c.ac a) a=gg (ar n) (c.ac a) a:=q2;rw[q2]at he;unfold gg at he;rw[hk0]at he;obtain⟨b1,b2⟩:=gS he;simp only[Bool.not_eq_true',decide_eq_false_iff_not]at b1;obtain⟨r1,r2,r3,r4⟩:=wv (c:=c) ht h' hc' hv' rfl jB hl hxr hch b2;have hty:(dq (ar n) (c.ac a) a).types=(ar n (c.ac a) x).1.types:=by rw[q1,q2];unfold gg;rw[hk0,jY]
   refine⟨r1.post hty,fun v hv2=>?_,fun _=>⟨.inl k,by
    rw[hl];show 1<=nth (dq (ar n) (c.ac a) a).types x.toNat/\nth (dq (ar n) (c.ac a) a).types x.toNat<=4;rw[hty,r4];omega⟩⟩
   have hv2:v∈(dq (ar n) (c.ac a) a).vars++[(⟨((c.ac a).node a).name,(ar n (c.ac a) ((c.ac a).aw a 0)).2,(dq (ar n) (c.ac a) a).size⟩:bC)]:=hv2;rcases List.mem_append.1 hv2 with hm|hm
   ·rw[(vN (dp n) (c.ac a) a).vars]at hm
    exact hv' v hm
   ·rw[List.mem_singleton.1 hm]
    show 1<=(ar n (c.ac a) ((c.ac a).aw a 0)).2/\(ar n (c.ac a) ((c.ac a).aw a 0)).2<=4;rw[hk0];omega
  ·have e:bu (n+1) c a=(ar n ((c.ac a).named a).1 ((c.ac a).aw a 0)).1.aq (decide (((c.ac a).named a).2=(ar n ((c.ac a).named a).1 ((c.ac a).aw a 0)).2)) a:=by unfold bu;simp only;rw[hnode,k];rfl
   obtain⟨x,hl,hxr⟩:=sh.right jB;have hk0:(c.ac a).aw a 0=x:=by rw[kd,hl];rfl
   rw[e]at he ⊢;rw[hk0]at he ⊢;obtain⟨b1,b2⟩:=gS he;have en:=l8 (c.ac a) a;obtain⟨r1,_⟩:=wv (c:=c) ht (h'.ev en) (en.aa.trans hc') (hv'.ev en) (xv _ _) jB hl hxr hch b2;exact⟨r1.post (jY _ _ _),(hv'.ev en).ev ((dp n _ _).trans (ir _ _ _)),fun h=>jB⟩
  ·have e:bu (n+1) c a=(ar n (ar n ((c.ac a).named a).1 ((c.ac a).aw a 0)).1 ((c.ac a).aw a 1)).1.aq (decide (((c.ac a).named a).2=4) && decide ((ar n ((c.ac a).named a).1 ((c.ac a).aw a 0)).2=1) && decide ((ar n (ar n ((c.ac a).named a).1 ((c.ac a).aw a 0)).1 ((c.ac a).aw a 1)).2=1)) a:=by unfold bu;simp only;rw[hnode,k];rfl
   obtain⟨x,y,hl,hxe,hye⟩:=sh.two jB;have hk0:(c.ac a).aw a 0=x:=by rw[kd,hl];rfl
   have hk1:(c.ac a).aw a 1=y:=by rw[kd,hl];rfl
   rw[e]at he ⊢;rw[hk0,hk1]at he ⊢;obtain⟨b1,b2⟩:=gS he;have en:=l8 (c.ac a) a;have r1:=LB (c:=c) ht (h'.ev en) (en.aa.trans hc') (hv'.ev en) (xv _ _) jB hl hxe hye hch jB b2;exact⟨r1.post (jY _ _ _),(hv'.ev en).ev (((dp n _ _).trans (dp n _ _)).trans (ir _ _ _)),fun h=>jB⟩
  ·have e:bu (n+1) c a=(ar n (c.ac a) ((c.ac a).aw a 0)).1:=by unfold bu;simp only;rw[hnode,k];rfl
   obtain⟨x,hl,hxk⟩:=sh.mR k;have hk0:(c.ac a).aw a 0=x:=by rw[kd,hl];rfl
   rw[e]at he ⊢;rw[hk0]at he ⊢;obtain⟨r1,_⟩:=wv (c:=c) ht h' hc' hv' rfl jB hl (by rw[hxk];unfold dM;omega) hch he;exact⟨r1,hv'.ev (dp n _ _),fun h=>jB⟩
  ·have e:bu (n+1) c a=(ar n (c.ac a) ((c.ac a).aw a 0)).1.aq (!decide ((ar n (c.ac a) ((c.ac a).aw a 0)).2=4)) a:=by unfold bu;simp only;rw[hnode,k];rfl
   obtain⟨x,hl,hxe⟩:=sh.one jB;have hk0:(c.ac a).aw a 0=x:=by rw[kd,hl];rfl
   rw[e]at he ⊢;rw[hk0]at he ⊢;obtain⟨b1,b2⟩:=gS he;obtain⟨r1,_⟩:=wv (c:=c) ht h' hc' hv' rfl jB hl (.inl hxe) hch b2;exact⟨r1.post (jY _ _ _),hv'.ev ((dp n _ _).trans (ir _ _ _)),fun h=>jB⟩
  ·have e:bu (n+1) c a=jw (ar n) (c.ac a) a:=by unfold bu;simp only;rw[hnode,k];rfl
   rw[e]at he ⊢;unfold jw at he ⊢;rw[hnode]at he ⊢;simp only at he ⊢;split at he
   ·exact(lJ jC he).elim
   rename_i hf;rw[if_neg hf];rcases sh.ret k with hl|⟨x,hl,hxe⟩
   ·rw[hl]
    rw[if_neg jC];rw[hl]at hch;have:lo=a.toNat:=by cases hch;rfl
    subst this;exact⟨⟨.same rfl,.none⟩,hv',fun h=>jB⟩
   ·have hk0:(c.ac a).aw a 0=x:=by rw[kd,hl];rfl
    have hl1:(nth t.nodes a.toNat).l.length=1:=by rw[hl];rfl
    rw[if_pos hl1]at he ⊢;rw[hk0]at he ⊢;obtain⟨b1,b2⟩:=gS he;obtain⟨r1,_⟩:=wv (c:=c) ht h' hc' hv' rfl jB hl (.inl hxe) hch b2;exact⟨r1.post (jY _ _ _),hv'.ev ((dp n _ _).trans (ir _ _ _)),fun h=>jB⟩
  ·have e:bu (n+1) c a=cY (dR (bu n)) ((ar n (c.ac a) ((c.ac a).aw a 0)).1.aq (decide ((ar n (c.ac a) ((c.ac a).aw a 0)).2=2)) a) (((c.ac a).node a).l.drop 1):=by
    unfold bu;simp only;rw[hnode];rcases k with k|k<;>rw[k]<;>rfl
   have hsh:∃x L,(nth t.nodes a.toNat).l=x::L/\bO (bs t.nodes x)/\∀y∈L,bs t.nodes y=18:=by
    rcases k with k|k
    ·obtain⟨x,y,hx,hy,hl|⟨z,hl,hz⟩⟩:=sh.kg k
     ·exact⟨x,[y],hl,hx,fun u hu=>by rw[List.mem_singleton.1 hu];exact hy⟩
     ·exact⟨x,[y,z],hl,hx,fun u hu=>by
       rcases List.mem_cons.1 hu with rfl|hu
       ·exact hy
       ·rw[List.mem_singleton.1 hu];exact hz⟩
    ·obtain⟨x,y,hl,hx,hy⟩:=sh.dK k
     exact⟨x,[y],hl,hx,fun u hu=>by rw[List.mem_singleton.1 hu];exact hy⟩
   obtain⟨x,L,hl,hxe,hL⟩:=hsh;have hk0:(c.ac a).aw a 0=x:=by rw[kd,hl];rfl
   rw[e]at he ⊢;rw[hnode,hl,hk0]at he ⊢;have he:(cY (dR (bu n)) ((ar n (c.ac a) x).1.aq (decide ((ar n (c.ac a) x).2=2)) a) L).e=0:=he;show fP t lo a.toNat c (cY (dR (bu n)) ((ar n (c.ac a) x).1.aq (decide ((ar n (c.ac a) x).2=2)) a) L)/\bP (cY (dR (bu n)) ((ar n (c.ac a) x).1.aq (decide ((ar n (c.ac a) x).2=2)) a) L)/\((nth t.nodes a.toNat).kind=15\/(nth t.nodes a.toNat).kind=16\/(nth t.nodes a.toNat).kind=10->((nth t.nodes a.toNat).kind=10\/nth (cY (dR (bu n)) ((ar n (c.ac a) x).1.aq (decide ((ar n (c.ac a) x).2=2)) a) L).types (nth (x::L) 0).toNat=2)/\1<=nth (cY (dR (bu n)) ((ar n (c.ac a) x).1.aq (decide ((ar n (c.ac a) x).2=2)) a) L).types (nth (x::L) 0).toNat/\nth (cY (dR (bu n)) ((ar n (c.ac a) x).1.aq (decide ((ar n (c.ac a) x).2=2)) a) L).types (nth (x::L) 0).toNat<=4);have ex:=(dp n (c.ac a) x).trans (ir _ (decide ((ar n (c.ac a) x).2=2)) a);have hin:=h'.ev ex;have hsb:∀(q:Ck) b,bv q->q.e=0->Sv q (dR (bu n) q b):=fun q b hq _=>(oz (kK n) hq b).1
   have e1:=(nL hsb L _ hin).e0 he;obtain⟨b1,b2⟩:=gS e1;rw[hl]at hch;obtain⟨c1,c2,c3,c4,c5,c6⟩:=gZ hch;obtain⟨r1,r1b,_⟩:=tK ht n (c.ac a) x lo h' hc' hv' c1 c2 jB (.inl hxe) c5 b2;obtain⟨r2,v2⟩:=vD ht hsb (C:=fun k=>k=18) (n:=n) (fun q b l g1 g2 g3 _ g5 g6 g7 g8 g9 g10=>yo ht hs q b l g1 g2 g3 g5 g6 jB g8 g9 g10) L _ (x.toNat+1) a.toNat hin (ex.aa.trans hc') (hv'.ev ex) jB jB hL c6 he;exact⟨((fP.pre (a:=c) (b:=c.ac a) rfl r1).post (jY _ _ _)).seq ht (aG.j5 c1 c2 c5) jB jB r2,v2,fun _=>by
    show(_\/nth _ x.toNat=2)/\1<=nth _ x.toNat/\nth _ x.toNat<=4;rw[r2.tw x.toNat (.inl jB),jY,r1b];have:=of_decide_eq_true b1;omega⟩
theorem Ad{t:ax}(body:Int):∀(ps:List bD) (c:Ck) (i:Int),bP c->(∀p∈ps,1<=p.ty/\p.ty<=4)->bP (dD body c ps i)/\(dD body c ps i).types=c.types/\((dD body c ps i).e=0->c.e=0)
 |[],c,i,h,hp=>by unfold dD;exact⟨h,rfl,id⟩
 |p::ps,c,i,h,hp=>by
  have fin:∀c1:Ck,Ev c c1->c1.types=c.types->bP (dD body (jS c1 ⟨p.name,p.ty,i⟩) ps (i+1))/\(dD body (jS c1 ⟨p.name,p.ty,i⟩) ps (i+1)).types=c.types/\((dD body (jS c1 ⟨p.name,p.ty,i⟩) ps (i+1)).e=0->c.e=0):=fun c1 s e=>by
   obtain⟨a,b,d⟩:=Ad (t:=t) body ps (jS c1 ⟨p.name,p.ty,i⟩) (i+1) (fun v hv=>by
    have hv:v∈c1.vars++[(⟨p.name,p.ty,i⟩:bC)]:=hv;rcases List.mem_append.1 hv with hv|hv
    ·exact h.ev s v hv
    ·rw[List.mem_singleton.1 hv];exact hp p jE) (fun q hq=>hp q (by simp[hq]))
   exact⟨a,b.trans e,fun hh=>s.e0 (d hh)⟩
  unfold dD;simp only;split
  ·exact fin _ (mj c jC body) (zh _ _ _)
  ·exact fin _ (.refl c) rfl
theorem Ma(ht:aH t){c:Ck}(h:fa c)(hc:c.aa=t)(hk:k<t.ap.length)(hsz:c.aM.length<6)(hch:aG t.nodes lo (nth t.nodes (nth t.ap k).body.toNat).l (nth t.ap k).body.toNat)(he:(ff c k).e=0) :
  fP t lo ((nth t.ap k).body.toNat+1) c (ff c k)/\c.e=0:=by
 have hk':k<c.aa.ap.length:=by rw[hc];exact hk
 have hp3:=h.aa.fn _ (dx hk');have hi0:bv { c with fn:=(k:Int),vars:=[],more:=[],size:=0 }:=⟨h.aa,h.types,h.slots,h.ap,by show c.aM.length<=6;omega,by show(0:Int)<=k;omega,by show(k:Int)<(c.aa.ap.length:Int);omega,by show((0:Nat):Int)<=0;omega,by show(0:Int)<=25;omega,fun _=>by show(0:Int)<=24;omega⟩;obtain⟨a,b,d⟩:=wi (nth c.aa.ap k).body (nth c.aa.ap k).params _ 0 hi0 (by show(0:Int)+_<=20;omega);obtain⟨a',b',d'⟩:=Ad (t:=t) (nth c.aa.ap k).body (nth c.aa.ap k).params { c with fn:=(k:Int),vars:=[],more:=[],size:=0 } 0 (fun v hv=>by simp at hv) hp3.1.ps;have hbN:=ot ht hk;have hbk:=ht.body _ (dx hk);unfold ff at he ⊢;simp only at he ⊢;rw[hc]at he ⊢;rw[hc]at a b d a' b' d';split at he
 ·rename_i e1
  rw[if_pos e1];obtain⟨r,_⟩:=yo ht (un ht t.nodes.length) _ (nth t.ap k).body lo a (b.trans (by rfl)) a' hbN.1 hbN.2 (by have:=hbN.2;have:=hbN.1;omega) hbk hch he;have q:=fP.pre (a:=c) b' r;exact⟨⟨fun k hk=>q.tw k hk,q.all⟩,d' e1⟩
 ·rename_i e1
  exact(e1 he).elim
theorem wh{t:ax}(ht:aH t):∀(n i lo:Nat) (c:Ck),fa c->c.aa=t->c.aM.length=i->i+n=t.ap.length->aG t.nodes lo ((t.ap.drop i).map (·.body)) t.nodes.length->(fj c i n).e=0->
  fP t lo t.nodes.length c (fj c i n)/\(fj c i n).aa=t/\fa (fj c i n)/\(fj c i n).aM.length=t.ap.length
 |0,i,lo,c,h,hc,hs,hi,hch,he=>by
  unfold fj;rw[List.drop_eq_nil_of_le jB]at hch;have:lo=t.nodes.length:=by cases hch;rfl
  subst this;exact⟨⟨.refl _ _ _,.none⟩,hc,h,jB⟩
 |n+1,i,lo,c,h,hc,hs,hi,hch,he=>by
  have h6:=ht.ap;unfold fj at he ⊢;by_cases e0:c.e=0
  ·rw[if_pos e0]at he ⊢
   have hk:i<t.ap.length:=jB
   rw[kP hk]at hch;obtain⟨c1,c2,c3,c4,c5,c6⟩:=gZ (a:=(nth t.ap i).body) hch;obtain⟨f1,f2,f3⟩:=wQ h (by rw[hc];exact hk) (by omega:c.aM.length<6);have e1:(ff c i).e=0:=by
    cases n with
    |zero=>unfold fj at he;exact he
    |succ m=>
     unfold fj at he;split at he
     ·assumption
     ·exact he
   obtain⟨r1,_⟩:=Ma ht h hc hk jB c5 e1;obtain⟨r2,q1,q2,q3⟩:=wh ht n (i+1) ((nth t.ap i).body.toNat+1) (ff c i) f1 (f2.trans hc) jB jB c6 he;exact⟨r1.seq ht (aG.j5 c1 c2 c5) jB jB r2,q1,q2,q3⟩
  ·rw[if_neg e0]at he
   exact(e0 he).elim
structure rX(p:ab):Prop where
 aa:aH p.aa
 types:p.types.length=p.aa.nodes.length
 slots:p.slots.length=p.aa.nodes.length
 fn:p.fn.length=p.aa.nodes.length
 size:p.size.length=p.aa.ap.length
 ty:fL p.aa p.types 0 p.aa.nodes.length
theorem Bg(ht:aH t):fa (iN (iY t))/\(iN (iY t)).aa=t/\(iN (iY t)).aM=[]:=by
 have ev:=Hx (iY t);refine⟨⟨by rw[ev.aa];exact ht,?_,?_,?_⟩,ev.aa,ev.aM⟩
 ·rw[ev.types,ev.aa];show(t.nodes.map _).length=t.nodes.length;simp
 ·rw[ev.slots,ev.aa];show(t.nodes.map _).length=t.nodes.length;simp
 ·rw[ev.ap,ev.aa];show(t.nodes.map _).length=t.nodes.length;simp
theorem BG(ht:aH t)(he:(gC t).2.2=0):rX (gC t).1/\(gC t).1.aa=t:=by
 unfold gC at he ⊢;split at he
 ·rename_i h;exact(h he).elim
 rename_i h;rw[if_neg h];have h:(gU t).e=0:=jB
 obtain⟨i1,i2,i3⟩:=Bg ht;obtain⟨r,q1,q2,q3⟩:=wh ht t.ap.length 0 0 (iN (iY t)) i1 i2 (by rw[i3];rfl) jB (by rw[List.drop_zero];exact ht.chain) h;refine⟨⟨q2.aa,q2.types,q2.slots,q2.ap,?_,?_⟩,q1⟩
 ·show(gU t).aM.length=(gU t).aa.ap.length
  have e:(gU t).aa=t:=q1;rw[e];exact q3
 ·show fL (gU t).aa (gU t).types 0 (gU t).aa.nodes.length
  have e:(gU t).aa=t:=q1;rw[e];exact r.all
theorem Pg{s:ByteArray}(he:(ga s).2.2=0):rX (ga s).1:=by
 unfold ga at he ⊢;split at he
 ·rename_i h;exact(h he).elim
 rename_i h;rw[if_neg h];have h:(gu s).2.2=0:=jB
 simp only at he ⊢;split at he
 ·cases he
 rename_i h2;split at he
 ·rename_i h3;exact(h3 he).elim
 rename_i h3;rw[if_neg h2,if_neg h3];exact(BG (vE h) jB).1
end Go.Proofs.YtfkgcobaheegbaaGreatDoor

/- Lemmas. No conditions. -/
import Derived.Test.YtfkgcobaheegbaaGreatDoorCk8
set_option linter.all false
set_option maxHeartbeats 4000000
set_option maxRecDepth 10000
namespace Go.Proofs.YtfkgcobaheegbaaGreatDoor
open Go Go.Gd Tryz
def gi(t:az)(a:Int):Prop:=0<=a/\a<t.nodes.length
def xG(c:Ck):Prop:=c.e=0\/c.e=44\/gi c.aa c.at_
def Kp(t:az)(c c':Ck):Prop:=c.aa=t->c'.aa=t/\(xG c->xG c')
theorem Kp.refl(t:az)(c:Ck):Kp t c c:=fun h=>⟨h,id⟩
variable{t:az}{b:Ck}
theorem Kp.trans{a c:Ck}(h:Kp t a b)(k:Kp t b c):Kp t a c:=fun e=>⟨(k (h e).1).1,fun x=>(k (h e).1).2 ((h e).2 x)⟩
variable{c':Ck}
theorem pF{c:Ck}(h1:c'.aa=c.aa)(h2:c'.e=c.e)(h3:c'.at_=c.at_):Kp t c c':=fun e=>⟨h1.trans e,fun h=>by unfold xG at*;rw[h1,h2,h3];exact h⟩
variable{a:Int}
theorem ri(c:Ck)(e:Int)(ha:gi t a):Kp t c (c.aF e a):=fun ht=>by
 unfold Ck.aF;split
 ·refine⟨ht,fun _=>.inr (.inr ?_)⟩;show gi c.aa a;rw[ht];exact ha
 ·exact⟨ht,id⟩
theorem qj(c:Ck)(b:Bool)(ha:gi t a):Kp t c (c.ap b a):=by
 unfold Ck.ap;split
 ·exact .refl t c
 ·exact ri c 42 ha
theorem zg(c:Ck)(ha:gi t a):Kp t c (c.named a).1:=by
 unfold Ck.named;split
 ·exact ri c 40 ha
 ·exact pF rfl rfl rfl
theorem DV{α:Type}[Inhabited α]{l:List α}{i:Nat}(h:l.length<=i):nth l i=default:=by simp[nth,List.getD_eq_getElem?_getD,List.getElem?_eq_none h]
theorem uO(h:aH t){c:Ck}(hc:c.aa=t)(ha:gi t a)(i:Nat):gi t (c.ay a i):=by
 obtain⟨h0,h1⟩:=ha;unfold Ck.ay Ck.node;rw[hc];by_cases hi:i<(nth t.nodes a.toNat).l.length
 ·have:=(h.shape a.toNat jB).2.1 _ (dT hi);unfold gi;omega
 ·have:nth (nth t.nodes a.toNat).l i=0:=DV (Nat.le_of_not_lt hi);rw[this];unfold gi;omega
theorem yr(h:aH t){c:Ck}(hc:c.aa=t)(ha:gi t a):∀x∈(c.node a).l,gi t x:=fun x hx=>by obtain⟨h0,h1⟩:=ha;unfold Ck.node at hx;rw[hc]at hx;have:=(h.shape a.toNat jB).2.1 _ hx;unfold gi;omega
theorem CX{t:az}{ex:Ck->Int->Ck×Int}(hex:∀c a,gi t a->Kp t c (ex c a).1):∀(l:List Int) (c:Ck) (ts:List Int),(∀x∈l,gi t x)->Kp t c (fO ex c l ts).1
 |[],c,ts,_=>by unfold fO;exact .refl t c
 |a::l,c,ts,hl=>by
  unfold fO;split
  ·exact(hex c a (hl a jE)).trans (CX hex l _ _ fun x hx=>hl x (by simp[hx]))
  ·exact .refl t c
theorem C3{t:az}{a:Int}(ha:gi t a):∀(ts:List Int) (ps:List bE) (c:Ck),Kp t c (gL a c ts ps)
 |[],ps,c=>by rw[rF];exact .refl t c
 |_::_,[],c=>by rw[rA];exact .refl t c
 |x::ts,p::ps,c=>by
  unfold gL;split
  ·exact(qj c _ ha).trans (C3 ha ts ps _)
  ·exact .refl t c
variable{ex:Ck->Int->Ck×Int}
theorem Pa(h:aH t)(hex:∀c a,gi t a->Kp t c (ex c a).1)(c:Ck)(ha:gi t a):Kp t c (gq ex c a).1:=fun hc=>by
 refine(show Kp t c (gq ex c a).1 from ?_) hc;unfold gq;split
 ·exact ri c 40 ha
 ·refine Kp.trans ?_ (C3 ha _ _ _);split
  ·exact(CX hex _ _ _ (yr h hc ha)).trans (ri _ 43 ha)
  ·exact CX hex _ _ _ (yr h hc ha)
theorem KH(h:aH t)(hex:∀c a,gi t a->Kp t c (ex c a).1)(c:Ck)(ha:gi t a):Kp t c (bV ex c a).1:=fun hc=>by
 have k0:=uO h hc ha 0;have k1:=uO h hc ha 1;refine(show Kp t c (bV ex c a).1 from ?_) hc;unfold bV;simp only;repeat' split
 all_goals first
  |exact .refl t c
  |exact zg c ha
  |exact Pa h hex c ha
  |exact((zg c ha).trans (hex _ _ k0)).trans (qj _ _ ha)
  |exact((hex c _ k0).trans (hex _ _ k1)).trans (qj _ _ ha)
  |exact(hex c _ k0).trans (qj _ _ ha)
theorem It{t:az}(h:aH t):∀(n:Nat) (c:Ck) (a:Int),gi t a->Kp t c (ar n c a).1
 |0,c,a,ha=>by unfold ar;exact .refl t c
 |n+1,c,a,ha=>by
  unfold ar;split
  ·exact .refl t c
  ·exact(KH h (It h n) c ha).trans (pF rfl rfl rfl)
theorem Qw(h:aH t)(hex:∀c a,gi t a->Kp t c (ex c a).1)(c:Ck)(ha:gi t a):Kp t c (oB ex c a):=fun hc=>by
 have k0:=uO h hc ha 0;refine(show Kp t c (oB ex c a) from ?_) hc;rw[sc];have kA:Kp t c (gr ex c a):=(hex c _ k0).trans (qj _ _ ha);have kB:Kp t c (iR ex c a):=by
  unfold iR;split
  ·exact kA.trans (ri _ 41 ha)
  ·exact kA
 have kC:Kp t c (dz ex c a):=by
  unfold dz;split
  ·exact kB.trans (ri _ 4 ha)
  ·exact kB
 exact kC.trans (pF rfl rfl rfl)
theorem LU(h:aH t)(hex:∀c a,gi t a->Kp t c (ex c a).1)(c:Ck)(ha:gi t a):Kp t c (jZ ex c a):=fun hc=>by
 have k0:=uO h hc ha 0;refine(show Kp t c (jZ ex c a) from ?_) hc;unfold jZ;simp only;split
 ·exact ri c 43 ha
 split
 ·exact(hex c _ k0).trans (qj _ _ ha)
 ·exact .refl t c
theorem Ci{t:az}{st:Ck->Int->Ck}(hst:∀c a,gi t a->Kp t c (st c a)):∀(l:List Int) (c:Ck),(∀x∈l,gi t x)->Kp t c (de st c l)
 |[],c,_=>by unfold de;exact .refl t c
 |a::l,c,hl=>by
  unfold de;split
  ·exact(hst c a (hl a jE)).trans (Ci hst l _ fun x hx=>hl x (by simp[hx]))
  ·exact .refl t c
theorem HK(h:aH t){st:Ck->Int->Ck}(hst:∀c a,gi t a->Kp t c (st c a))(c:Ck)(ha:gi t a):Kp t c (dZ st c a):=fun hc=>by refine(show Kp t c (dZ st c a) from ?_) hc;have h1:Kp t c (c.ac a):=pF rfl rfl rfl;exact(h1.trans (Ci hst _ _ (yr h hc ha))).trans (pF rfl rfl rfl)
theorem GJ{t:az}(h:aH t):∀(n:Nat) (c:Ck) (a:Int),gi t a->Kp t c (bv n c a)
 |0,c,a,ha=>by unfold bv;exact .refl t c
 |n+1,c,a,ha=>fun hc=>by
  have k0:=uO h hc ha 0;have k1:=uO h hc ha 1;have kl:=yr h hc ha;refine(show Kp t c (bv (n+1) c a) from ?_) hc;have e0:Kp t c (c.ac a):=pF rfl rfl rfl;have hx:=It h n;unfold bv;simp only;refine e0.trans ?_;repeat' split
  ·exact Qw h hx _ ha
  ·exact((zg _ ha).trans (hx _ _ k0)).trans (qj _ _ ha)
  ·exact(((zg _ ha).trans (hx _ _ k0)).trans (hx _ _ k1)).trans (qj _ _ ha)
  ·exact hx _ _ k0
  ·exact(hx _ _ k0).trans (qj _ _ ha)
  ·exact LU h hx _ ha
  ·exact((hx _ _ k0).trans (qj _ _ ha)).trans (Ci (fun c a ha=>HK h (GJ h n) c ha) _ _ fun x hx'=>kl x (List.mem_of_mem_drop hx'))
theorem Ie{t:az}{body:Int}(hb:gi t body):∀(ps:List bE) (c:Ck) (i:Int),Kp t c (dU body c ps i)
 |[],c,i=>by unfold dU;exact .refl t c
 |p::ps,c,i=>by
  unfold dU;simp only;refine Kp.trans ?_ (Ie hb ps _ _);split
  ·exact(ri c 41 hb).trans (pF rfl rfl rfl)
  ·exact pF rfl rfl rfl
variable{k:Nat}
theorem oG(h:aH t)(hk:k<t.ao.length):gi t (nth t.ao k).body:=by have:=h.chain.mem (nth t.ao k).body (List.mem_map.2 ⟨_,dT hk,rfl⟩);unfold gi;omega
theorem Lt(h:aH t)(c:Ck)(hk:k<t.ao.length):Kp t c (fA c k):=fun hc=>by
 refine(show Kp t c (fA c k) from ?_) hc;have hb:gi t (nth c.aa.ao k).body:=by rw[hc];exact oG h hk
 have h1:Kp t c (dU (nth c.aa.ao k).body { c with fn:=(k:Int),vars:=[],more:=[],size:=0 } (nth c.aa.ao k).params 0):=Kp.trans (b:={ c with fn:=(k:Int),vars:=[],more:=[],size:=0 }) (pF rfl rfl rfl) (Ie hb _ _ _);unfold fA;simp only;split
 ·exact(h1.trans (HK h (GJ h _) _ hb)).trans (pF rfl rfl rfl)
 ·exact h1.trans (pF rfl rfl rfl)
theorem IE{t:az}(h:aH t):∀(n:Nat) (c:Ck) (i:Nat),i+n<=t.ao.length->Kp t c (fE c i n)
 |0,c,i,_=>by unfold fE;exact .refl t c
 |n+1,c,i,hi=>by
  unfold fE;split
  ·exact(Lt h c jB).trans (IE h n _ _ jB)
  ·exact .refl t c
theorem Ic{t:az}{x:aX}(hx:gi t x.body):∀(l:List aX) (c:Ck),Kp t c (lP x c l)
 |[],c=>by unfold lP;exact .refl t c
 |f::l,c=>by
  unfold lP;refine Kp.trans ?_ (Ic hx l _);split
  ·exact ri c 41 hx
  ·exact .refl t c
theorem FG{t:az}(h:aH t):∀(n:Nat) (c:Ck) (m:Bool) (i:Nat),i+n<=t.ao.length->Kp t c (kT t.ao c m i n).1
 |0,c,m,i,_=>by unfold kT;exact .refl t c
 |n+1,c,m,i,hi=>by unfold kT;exact(Ic (oG h jB) _ _).trans (FG h n _ _ _ jB)
theorem NE(h:aH t)(c:Ck):Kp t c (iY c):=fun hc=>by
 have h1:Kp t c (kT c.aa.ao c false 0 c.aa.ao.length).1:=by rw[hc];exact FG h _ _ _ _ jB
 refine(show Kp t c (iY c) from ?_) hc;unfold iY;simp only;split
 ·exact h1
 ·refine h1.trans fun hq=>?_
  unfold Ck.aF;split
  ·exact⟨hq,fun _=>.inr (.inl rfl)⟩
  ·exact⟨hq,id⟩
theorem K6(h:aH t):xG (iv t)/\(iv t).aa=t:=by have k:Kp t (jq t) (iv t):=(NE h (jq t)).trans (IE h _ _ _ jB);exact⟨(k rfl).2 (.inl rfl),(k rfl).1⟩
theorem QG(h:aH t):(gP t).2.2=0\/(gP t).2.2=44\/gi t (gP t).2.1:=by
 obtain⟨a,b⟩:=K6 h;unfold gP;split
 ·rcases a with a|a|a
  ·exact .inl a
  ·exact .inr (.inl a)
  ·rw[b]at a;exact .inr (.inr a)
 ·exact .inl rfl
theorem G8(s:ByteArray)(hs:s.size<=1000000):eG prog 16 [rS s] (.bj [.agg (gp (gf s).1),rI (gf s).2.1,rI (gf s).2.2]):=by
 have hp:=Q6 s hs;by_cases h1:(gH s).2.2=0
 ·have ht:=xv h1;have hk:=P9 (gH s).1 ht;have hat:=QG ht;by_cases h2:(gP (gH s).1).2.2=44
  ·have e:gf s=(kR,0,44):=by unfold gf;rw[if_neg (fun h=>h h1)];simp only;rw[if_pos h2]
   rw[e];refine fm func16 ntmps16 ?_
   (have W:=jA h1 h2;repeat' (first|refine aB fun K hK=>?_|refine aC ?_|(refine hK _ _ ?_;clear hK K)|(refine aA ?_ ?_<;>intro hc<;>try exact jz)|refine cp (hp) ?_|refine cp (hk) ?_|refine aD ?_|exact jI|(clear hK K)));all_goals(try clear W)
   refine l6 [.cell 2 29,.tmp 3,.tmp 4] ?_;refine bX.bj (ds:=[.agg (gp kR),rI _,rI _]) ?_;refine jA (bX.agg (ds:=gp kR) ?_) (jA (.same _ rfl) (jA (.same _ rfl) trivial));simp only[gp,kR];exact ki
  ·by_cases h3:(gP (gH s).1).2.2=0
   ·have e:gf s=((gP (gH s).1).1,0,0):=by unfold gf;rw[if_neg (fun h=>h h1)];simp only;rw[if_neg h2,if_neg (fun h=>h h3)]
    rw[e];refine fm func16 ntmps16 ?_
    (have W:=jA h1 h3;repeat' (first|refine aB fun K hK=>?_|refine aC ?_|(refine hK _ _ ?_;clear hK K)|(refine aA ?_ ?_<;>intro hc<;>try exact jz)|refine cp (hp) ?_|refine cp (hk) ?_|refine aD ?_|exact jI|(clear hK K)));all_goals(try clear W)
    (refine bH [.cell 2 29,.tmp 3,.tmp 4] ?_;try simp only[go_sem])
   ·have e:gf s=(kR,(nth (gH s).1.nodes (gP (gH s).1).2.1.toNat).cz,(gP (gH s).1).2.2):=by unfold gf;rw[if_neg (fun h=>h h1)];simp only;rw[if_neg h2,if_pos h3]
    obtain⟨hn1,hn2⟩:=(hat.resolve_left h3).resolve_left h2;rw[e];refine fm func16 ntmps16 ?_
    (have W:=jA h1 (jA h2 (h3));repeat' (first|refine aB fun K hK=>?_|refine aC ?_|(with_reducible refine gR 8 ?_);refine dA 8 [0] [0,1,2,3,4,5,6,7,8,9,10] mixed ?_|(refine hK _ _ ?_;clear hK K)|(refine aA ?_ ?_<;>intro hc<;>try exact jz)|refine cp (hp) ?_|refine cp (hk) ?_|refine aD ?_|exact jI|(clear hK K)));all_goals(try clear W)
    refine l6 [.cell 2 29,.tmp 3,.tmp 4] ?_;refine bX.bj (ds:=[.agg (gp kR),rI _,rI _]) ?_;refine jA (bX.agg (ds:=gp kR) ?_) (jA (.same _ rfl) (jA (.same _ rfl) trivial));simp only[gp,kR];exact ki
 ·have e:gf s=(kR,(gH s).2.1,(gH s).2.2):=by unfold gf;rw[if_pos h1]
  rw[e];refine fm func16 ntmps16 ?_
  (have W:=h1;repeat' (first|refine aB fun K hK=>?_|refine aC ?_|(refine hK _ _ ?_;clear hK K)|(refine aA ?_ ?_<;>intro hc<;>try exact jz)|refine cp (hp) ?_|refine aD ?_|exact jI|(clear hK K)));all_goals(try clear W)
  refine l6 [.cell 2 29,.tmp 3,.tmp 4] ?_;refine bX.bj (ds:=[.agg (gp kR),rI _,rI _]) ?_;refine jA (bX.agg (ds:=gp kR) ?_) (jA (.same _ rfl) (jA (.same _ rfl) trivial));simp only[gp,kR];exact ki
theorem oJ{α:Type}[Inhabited α](l:List α)(i k:Nat)(v:α):nth (l.set i v) k=if i=k/\k<l.length then v else nth l k:=by
 unfold nth;rw[List.getD_eq_getElem?_getD,List.getElem?_set,List.getD_eq_getElem?_getD];by_cases h:i=k
 ·subst h;by_cases hi:i<l.length
  ·simp[hi]
  ·simp[hi]
 ·simp[h]
structure vh(t:az)(ty:List Int)(k:Nat):Prop where
 int:(nth t.nodes k).kind=1->nth ty k=1
 bool:(nth t.nodes k).kind=2->nth ty k=2
 text:(nth t.nodes k).kind=3->nth ty k=3
 var:(nth t.nodes k).kind=4->1<=nth ty k/\nth ty k<=4
 index:(nth t.nodes k).kind=5->nth ty k=1/\nth ty (nth (nth t.nodes k).l 0).toNat=1
 len:(nth t.nodes k).kind=6->nth ty k=1/\(nth ty (nth (nth t.nodes k).l 0).toNat=3\/nth ty (nth (nth t.nodes k).l 0).toNat=4)
 neg:(nth t.nodes k).kind=7->nth ty k=1/\nth ty (nth (nth t.nodes k).l 0).toNat=1
 not:(nth t.nodes k).kind=8->nth ty k=2/\nth ty (nth (nth t.nodes k).l 0).toNat=2
 zx:(nth t.nodes k).kind=9->nth ty k=gY (nth t.nodes k).name (nth ty (nth (nth t.nodes k).l 0).toNat) (nth ty (nth (nth t.nodes k).l 1).toNat)/\nth ty k≠0
 cond:(nth t.nodes k).kind=15\/(nth t.nodes k).kind=16->nth ty (nth (nth t.nodes k).l 0).toNat=2
 call:(nth t.nodes k).kind=21->0<=iZ aX.name (nth t.nodes k).name t.ao 0 (-1)/\(nth t.nodes k).l.length=(nth t.ao (iZ aX.name (nth t.nodes k).name t.ao 0 (-1)).toNat).params.length
 in_:(nth t.nodes k).kind=19->nth ty k=1
 new:(nth t.nodes k).kind=20->nth ty k=4
 pd:(nth t.nodes k).kind=10->1<=nth ty (nth (nth t.nodes k).l 0).toNat/\nth ty (nth (nth t.nodes k).l 0).toNat<=4
def fT(t:az)(ty:List Int)(lo hi:Nat):Prop:=∀k,lo<=k->k<hi->vh t ty k
def Tw(lo hi:Nat)(c c':Ck):Prop:=∀k,(k<lo\/hi<=k)->nth c'.types k=nth c.types k
variable{lo hi:Nat}{L:List Int}
theorem _root_.Go.Gd.aG.closed{t:List bk}(h:aG t lo L hi):∀k,lo<=k->k<hi->∀a∈(nth t k).l,lo<=a.toNat:=by
 induction h with
 |nil=>intro k h1 h2;omega
 |@cons lo c hi L hc h1 h2 i1 i2=>
  intro k hk1 hk2 a ha;have l1:=h1.le;by_cases h:k<c
  ·exact i1 k hk1 h a ha
  by_cases h':k=c
  ·subst h';exact(h1.mem a ha).2.1
  ·have:=i2 k jB hk2 a ha;omega
variable{ty:List Int}
theorem vh.aY(h:aH t){ty':List Int}(hk:k<t.nodes.length)(hlo:lo<=k)(hc:∀a∈(nth t.nodes k).l,lo<=a.toNat)(he:∀i,lo<=i->i<=k->nth ty' i=nth ty i)(x:vh t ty k):vh t ty' k:=by
 have hm:=(h.shape k hk).2.1;have sh:=(h.shape k hk).1;have e0:=he k hlo jl;have ea:∀i,i<(nth t.nodes k).l.length->nth ty' (nth (nth t.nodes k).l i).toNat=nth ty (nth (nth t.nodes k).l i).toNat:=fun i hi=>by have hmem:=dT hi;have:=hm _ hmem;exact he _ (hc _ hmem) jB
 refine⟨fun e=>by rw[e0];exact x.int e,fun e=>by rw[e0];exact x.bool e,fun e=>by rw[e0];exact x.text e,fun e=>by rw[e0];exact x.var e,fun e=>?_,fun e=>?_,fun e=>?_,fun e=>?_,fun e=>?_,fun e=>?_,x.call,fun e=>by rw[e0];exact x.in_ e,fun e=>by rw[e0];exact x.new e,fun e=>?_⟩
 ·obtain⟨a,hl,_⟩:=sh.one jB;rw[e0,ea 0 (by rw[hl];simp)];exact x.index e
 ·obtain⟨a,hl,_⟩:=sh.one jB;rw[e0,ea 0 (by rw[hl];simp)];exact x.len e
 ·obtain⟨a,hl,_⟩:=sh.one jB;rw[e0,ea 0 (by rw[hl];simp)];exact x.neg e
 ·obtain⟨a,hl,_⟩:=sh.one jB;rw[e0,ea 0 (by rw[hl];simp)];exact x.not e
 ·obtain⟨a,b,hl,_⟩:=sh.two jB;rw[e0,ea 0 (by rw[hl];simp),ea 1 (by rw[hl];simp)];exact x.zx e
 ·have hl:0<(nth t.nodes k).l.length:=by
   rcases e with e|e
   ·obtain⟨a,b,_,_,hl|⟨d,hl,_⟩⟩:=sh.kz e<;>rw[hl]<;>simp
   ·obtain⟨a,b,hl,_⟩:=sh.dS e;rw[hl];simp
  rw[ea 0 hl];exact x.cond e
 ·obtain⟨a,hl,_⟩:=sh.right jB;rw[ea 0 (by rw[hl];simp)];exact x.pd e
theorem fT.aY{t:az}(h:aH t){ty ty':List Int}{lo hi:Nat}{L:List Int}(hc:aG t.nodes lo L hi)(hl:hi<=t.nodes.length)(he:∀i,lo<=i->i<hi->nth ty' i=nth ty i)(x:fT t ty lo hi):fT t ty' lo hi:=fun k h1 h2=> (x k h1 h2).aY h jB h1 (hc.closed k h1 h2) fun i g1 g2=>he i g1 jB
theorem fT.join{eZ:Nat}(x:fT t ty lo eZ)(y:fT t ty eZ hi):fT t ty lo hi:=fun k h1 h2=>by
 by_cases h:k<eZ
 ·exact x k h1 h
 ·exact y k jB h2
theorem fT.none:fT t ty lo lo:=fun k h1 h2=>jB
theorem Tw.refl(lo hi:Nat)(c:Ck):Tw lo hi c c:=fun _ _=>rfl
theorem Tw.same{c:Ck}(h:c'.types=c.types):Tw lo hi c c':=fun _ _=>by rw[h]
theorem Tw.trans{lo hi:Nat}{a b c:Ck}(h:Tw lo hi a b)(k:Tw lo hi b c):Tw lo hi a c:=fun i hi=>(k i hi).trans (h i hi)
theorem Tw.mono{lo' hi':Nat}{a:Ck}(h:Tw lo hi a b)(h1:lo'<=lo)(h2:hi<=hi'):Tw lo' hi' a b:=fun i hi=>h i jB
theorem Bo(c:Ck)(e a:Int):(c.aF e a).types=c.types:=by unfold Ck.aF;split<;>rfl
theorem kf(c:Ck)(b:Bool)(a:Int):(c.ap b a).types=c.types:=by unfold Ck.ap;split;rfl;exact Bo _ _ _
theorem im{c:Ck}{b:Bool}(h:(c.ap b a).e=0):b=true/\c.e=0:=by
 unfold Ck.ap at h;split at h
 ·exact⟨by assumption,h⟩
 ·exfalso;unfold Ck.aF at h;split at h
  ·cases h
  ·contradiction
theorem mi{c:Ck}{e:Int}(he:e≠0)(h:(c.aF e a).e=0):False:=by
 unfold Ck.aF at h;split at h
 ·exact he h
 ·contradiction
theorem yU(c:Ck)(a:Int):(c.named a).1.types=c.types:=by unfold Ck.named;split;exact Bo _ _ _;rfl
def bR(c:Ck):Prop:=∀v∈c.vars,1<=v.ty/\v.ty<=4
theorem bR.ev{c:Ck}(h:bR c)(s:Ev c c'):bR c':=by unfold bR;rw[s.vars];exact h
theorem Oi{c:Ck}(h:bR c)(he:(c.named a).1.e=0):1<=(c.named a).2/\(c.named a).2<=4:=by
 unfold Ck.named at he ⊢;split
 ·rename_i hf;rw[if_pos hf]at he;exact(mi jC he).elim
 ·rename_i hf;rcases wH bC.name (c.node a).name c.vars 0 jB with⟨h1,_⟩|h1
  ·exact(hf (by show gj bC.name (c.node a).name c.vars 0<0;rw[h1];decide)).elim
  ·exact h _ (dT (by show(gj bC.name (c.node a).name c.vars 0).toNat<_;omega))
theorem Ev.e0{c:Ck}(s:Ev c c')(h:c'.e=0):c.e=0:=Classical.byContradiction fun e=>s.err e h
structure fW(t:az)(lo hi:Nat)(c c':Ck):Prop where
 tw:Tw lo hi c c'
 all:fT t c'.types lo hi
theorem fW.post{a c:Ck}(h:fW t lo hi a b)(e:c.types=b.types):fW t lo hi a c:=⟨h.tw.trans (.same e),by rw[e];exact h.all⟩
theorem fW.pre{a c:Ck}(e:b.types=a.types)(h:fW t lo hi b c):fW t lo hi a c:=⟨(Tw.same e).trans h.tw,h.all⟩
theorem fW.seq(ht:aH t){eZ:Nat}{a c:Ck}(hc:aG t.nodes lo L eZ)(hl:eZ<=t.nodes.length)(h1:eZ<=hi)(h:fW t lo eZ a b)(k:fW t eZ hi b c):fW t lo hi a c:=
 ⟨(h.tw.mono jl h1).trans (k.tw.mono hc.le jl),(h.all.aY ht hc hl fun i _ h2=>k.tw i (.inl h2)).join k.all⟩
def zF(t:az)(n:Nat):Prop:=∀(c:Ck) (a:Int) (lo:Nat),bu c->c.aa=t->bR c->0<=a->a<t.nodes.length->a.toNat<n->dW (bt t.nodes a)->aG t.nodes lo (nth t.nodes a.toNat).l a.toNat->(ar n c a).1.e=0->
 fW t lo (a.toNat+1) c (ar n c a).1/\nth (ar n c a).1.types a.toNat=(ar n c a).2/\0<=(ar n c a).2/\(ar n c a).2<=4
variable{t:List bk}
theorem jT(h:aG t lo [a] hi):0<=a/\a<t.length/\lo<=a.toNat/\hi=a.toNat+1/\aG t lo (nth t a.toNat).l a.toNat:=by
 cases h with
 |cons hc h1 h2=> cases h2;exact⟨jB,jB,by have:=h1.le;simpa using this,jE,by simpa using h1⟩
theorem iz(h:aG t lo (a::L) hi):0<=a/\a<t.length/\lo<=a.toNat/\a.toNat+1<=hi/\aG t lo (nth t a.toNat).l a.toNat/\aG t (a.toNat+1) L hi:=by
 cases h with
 |cons hc h1 h2=>exact⟨jB,jB,by have:=h1.le;simpa using this,by have:=h2.le;simpa using this,by simpa using h1,by simpa using h2⟩
theorem aG.kM(h0:0<=a)(h1:a<t.length)(h:aG t lo (nth t a.toNat).l a.toNat):aG t lo [a] (a.toNat+1):=by have e:a=((a.toNat:Nat):Int):=jB;rw[e];exact aG.one jB (by simpa using h)
theorem BH{t:az}(ht:aH t){n:Nat}(hx:zF t n):∀(L:List Int) (c:Ck) (ts:List Int) (lo hi:Nat),bu c->c.aa=t->bR c->hi<=n->hi<=t.nodes.length->(∀x∈L,dW (bt t.nodes x))->aG t.nodes lo L hi->(fO (ar n) c L ts).1.e=0->fW t lo hi c (fO (ar n) c L ts).1
 |[],c,ts,lo,hi,h,hc,hv,hn,hl,hr,hch,he=>by cases hch;unfold fO;exact⟨.refl _ _ _,.none⟩
 |a::L,c,ts,lo,hi,h,hc,hv,hn,hl,hr,hch,he=>by have e0:=(qz (dw n) (a::L) c ts).e0 he;unfold fO at he ⊢;rw[if_pos e0]at he ⊢;obtain⟨c1,c2,c3,c4,c5,c6⟩:=iz hch;have ev:=dw n c a;have e1:=(qz (dw n) L _ _).e0 he;have r1:=(hx c a lo h hc hv c1 c2 jB (hr a jE) c5 e1).1;exact r1.seq ht (aG.kM c1 c2 c5) jB jB (BH ht hx L _ _ _ hi (h.ev ev) (ev.aa.trans hc) (hv.ev ev) hn hl (fun x hx=>hr x (by simp[hx])) c6 he)
theorem zY(a:Int):∀(ts:List Int) (ps:List bE) (c:Ck),(gL a c ts ps).types=c.types
 |[],ps,c=>by rw[rF]
 |_::_,[],c=>by rw[rA]
 |x::ts,p::ps,c=>by
  unfold gL;split
  ·rw[zY a ts ps _];exact kf _ _ _
  ·rfl
variable{t:az}{n:Nat}
theorem KG(ht:aH t)(hx:zF t n){c:Ck}(h:bu c)(hc:c.aa=t)(hv:bR c)(h0:0<=a)(h1:a<t.nodes.length)(hn:a.toNat<=n)(hk:(nth t.nodes a.toNat).kind=21)(hch:aG t.nodes lo (nth t.nodes a.toNat).l a.toNat)(he:(gq (ar n) c a).1.e=0) :
  fW t lo a.toNat c (gq (ar n) c a).1/\(0<=(gq (ar n) c a).2/\(gq (ar n) c a).2<=4)/\0<=iZ aX.name (nth t.nodes a.toNat).name t.ao 0 (-1)/\(nth t.nodes a.toNat).l.length=(nth t.ao (iZ aX.name (nth t.nodes a.toNat).name t.ao 0 (-1)).toNat).params.length:=by
 have hnode:c.node a=nth t.nodes a.toNat:=by unfold Ck.node;rw[hc]
 have hcall:=(ht.shape a.toNat jB).1.call hk;unfold gq at he ⊢;split at he
 ·exact(mi jC he).elim
 rename_i hf;rw[if_neg hf];simp only at he ⊢;have e1:=(yx a _ _ _).e0 he;split at e1
 ·exact(mi jC e1).elim
 rename_i hl;rw[if_neg hl];have r:=BH ht hx (c.node a).l c [] lo a.toNat h hc hv hn jB (fun x hx'=>.inl (hcall x (by rw[<-hnode];exact hx'))) (by rw[hnode];exact hch) e1;have hcal:fz c a=iZ aX.name (nth t.nodes a.toNat).name t.ao 0 (-1):=by unfold fz;rw[hnode,hc]
 refine⟨r.post (zY _ _ _ _),?_,by rw[<-hcal];omega,by rw[<-hcal,<-hnode,<-hc];omega⟩;have hfn:(nth c.aa.ao (fz c a).toNat)∈c.aa.ao\/(nth c.aa.ao (fz c a).toNat)=default:=by
  by_cases hi:(fz c a).toNat<c.aa.ao.length
  ·exact .inl (dT hi)
  ·exact .inr (DV (Nat.le_of_not_lt hi))
 rcases hfn with hfn|hfn
 ·exact(ht.fn _ (by rw[<-hc];exact hfn)).1.ret
 ·rw[hfn];decide
theorem Jf(s:ByteArray)(a b:Int):0<=gY s a b/\gY s a b<=4:=by
 unfold gY;repeat' split
 all_goals omega
theorem OS(ht:aH t){c:Ck}{T:Int}(hl:c'.types.length=t.nodes.length)(h0:0<=a)(h1:a<t.nodes.length)(hch:aG t.nodes lo (nth t.nodes a.toNat).l a.toNat)(r:fW t lo a.toNat c c')(hT:vh t (c'.types.set a.toNat T) a.toNat) :
  fW t lo (a.toNat+1) c (c'.note a T)/\nth (c'.note a T).types a.toNat=T:=by
 have hs:∀k,nth (c'.note a T).types k=if a.toNat=k/\k<c'.types.length then T else nth c'.types k:=fun k=>oJ _ _ _ _
 refine⟨⟨fun k hk=>?_,?_⟩,by rw[hs,if_pos ⟨rfl,jB⟩]⟩
 ·have hlo:=hch.le;rw[hs,jN];exact r.tw k jB
 ·refine(r.all.aY ht hch jB fun i _ h2=>by rw[hs,jN]).join fun k g1 g2=>?_
  have:k=a.toNat:=jB;subst this;exact hT
theorem tS{t:az}(ht:aH t):∀n,zF t n
 |0=>fun c a lo h hc hv h0 h1 hn=>by omega
 |n+1=>fun c a lo h hc hv h0 h1 hn hr hch he=>by
  have hx:=tS ht n;have e0:=(dw (n+1) c a).e0 he;unfold ar at he ⊢;rw[jN]at he ⊢;simp only at he ⊢;have he:(bV (ar n) c a).1.e=0:=he;have hnode:c.node a=nth t.nodes a.toNat:=by unfold Ck.node;rw[hc]
  have sh:=(ht.shape a.toNat jB).1;have hlen:(bV (ar n) c a).1.types.length=t.nodes.length:=by rw[(Cv (dw n) c a).types,h.types,hc]
  -- what is to be shown of the node itself
  suffices hs:fW t lo a.toNat c (bV (ar n) c a).1/\vh t ((bV (ar n) c a).1.types.set a.toNat (bV (ar n) c a).2) a.toNat/\0<=(bV (ar n) c a).2/\(bV (ar n) c a).2<=4 by obtain⟨s1,s2,s3⟩:=hs;obtain⟨g1,g2⟩:=OS ht hlen h0 h1 hch s1 s2;exact⟨g1,g2,s3⟩
  have hset:∀T,nth ((bV (ar n) c a).1.types.set a.toNat T) a.toNat=T:=fun T=>by rw[oJ,if_pos ⟨rfl,jB⟩]
  have hoth:∀T k,k≠a.toNat->nth ((bV (ar n) c a).1.types.set a.toNat T) k=nth (bV (ar n) c a).1.types k:=fun T k hk=>by rw[oJ,jN]
  have leaf:(nth t.nodes a.toNat).l=[]->∀c',c'.types=c.types->fW t lo a.toNat c c':=fun hl c' e=>by
   rw[hl]at hch;have:lo=a.toNat:=by cases hch;rfl
   subst this;exact⟨.same e,.none⟩
  have kid1:∀c0 x,bu c0->c0.aa=t->bR c0->c0.types=c.types->(nth t.nodes a.toNat).l=[x]->dW (bt t.nodes x)->(ar n c0 x).1.e=0->fW t lo a.toNat c (ar n c0 x).1/\nth (ar n c0 x).1.types x.toNat=(ar n c0 x).2/\x.toNat≠a.toNat:=fun c0 x g1 g2 g3 g4 hl hxr hxe=>by rw[hl]at hch;obtain⟨c1,c2,c3,c4,c5⟩:=jT hch;obtain⟨r1,r2,_⟩:=hx c0 x lo g1 g2 g3 c1 c2 jB hxr c5 hxe;rw[c4];exact⟨r1.pre g4,r2,jB⟩
  have kd:∀i,c.ay a i=nth (nth t.nodes a.toNat).l i:=fun i=>by unfold Ck.ay;rw[hnode]
  have hkr:(nth t.nodes a.toNat).kind=1\/(nth t.nodes a.toNat).kind=2\/(nth t.nodes a.toNat).kind=3\/(nth t.nodes a.toNat).kind=4\/(nth t.nodes a.toNat).kind=5\/(nth t.nodes a.toNat).kind=6\/(nth t.nodes a.toNat).kind=7\/(nth t.nodes a.toNat).kind=8\/(nth t.nodes a.toNat).kind=9\/(nth t.nodes a.toNat).kind=19\/(nth t.nodes a.toNat).kind=20\/(nth t.nodes a.toNat).kind=21:=by have:dW (nth t.nodes a.toNat).kind:=hr;unfold dW bQ at this;omega
  rcases hkr with k|k|k|k|k|k|k|k|k|k|k|k
  ·have e:bV (ar n) c a=(c,1):=by unfold bV;simp only;rw[hnode,k];rfl
   rw[e]at hset ⊢;refine⟨leaf (sh.zero jB) _ rfl,?_,jE,jE⟩;constructor<;>intro k'<;>first|omega|exact hset _
  ·have e:bV (ar n) c a=(c,2):=by unfold bV;simp only;rw[hnode,k];rfl
   rw[e]at hset ⊢;refine⟨leaf (sh.zero jB) _ rfl,?_,jE,jE⟩;constructor<;>intro k'<;>first|omega|exact hset _
  ·have e:bV (ar n) c a=(c,3):=by unfold bV;simp only;rw[hnode,k];rfl
   rw[e]at hset ⊢;refine⟨leaf (sh.zero jB) _ rfl,?_,jE,jE⟩;constructor<;>intro k'<;>first|omega|exact hset _
  ·have e:bV (ar n) c a=c.named a:=by unfold bV;simp only;rw[hnode,k];rfl
   rw[e]at hset he ⊢;have hty:=Oi hv he;refine⟨leaf (sh.zero jB) _ (yU c a),?_,jB,jB⟩;constructor<;>intro k'<;>first|omega|(rw[hset];exact hty)
  ·have e:bV (ar n) c a=((ar n (c.named a).1 (c.ay a 0)).1.ap (decide ((c.named a).2=4) && decide ((ar n (c.named a).1 (c.ay a 0)).2=1)) a,1):=by unfold bV;simp only;rw[hnode,k];rfl
   obtain⟨x,hl,hxe⟩:=sh.one jB;have hk0:c.ay a 0=x:=by rw[kd,hl];rfl
   rw[e]at hset hoth he ⊢;rw[hk0]at hset hoth he ⊢;obtain⟨b1,b2⟩:=im he;simp only[Bool.and_eq_true,decide_eq_true_eq]at b1;have ev:=mG c a;obtain⟨r1,r2,r3⟩:=kid1 (c.named a).1 x (h.ev ev) (ev.aa.trans hc) (hv.ev ev) (yU c a) hl (.inl hxe) b2;refine⟨r1.post (kf _ _ _),?_,jE,jE⟩;constructor<;>intro k'<;>first|omega|skip
   refine⟨hset _,?_⟩;rw[hl];show nth (List.set _ _ _) x.toNat=1;rw[hoth _ _ r3];show nth (Ck.ap _ _ _).types x.toNat=1;rw[kf,r2];exact b1.2
  ·have e:bV (ar n) c a=((ar n c (c.ay a 0)).1.ap (decide ((ar n c (c.ay a 0)).2=3) || decide ((ar n c (c.ay a 0)).2=4)) a,1):=by unfold bV;simp only;rw[hnode,k];rfl
   obtain⟨x,hl,hxe⟩:=sh.one jB;have hk0:c.ay a 0=x:=by rw[kd,hl];rfl
   rw[e]at hset hoth he ⊢;rw[hk0]at hset hoth he ⊢;obtain⟨b1,b2⟩:=im he;simp only[Bool.or_eq_true,decide_eq_true_eq]at b1;obtain⟨r1,r2,r3⟩:=kid1 c x h hc hv rfl hl (.inl hxe) b2;refine⟨r1.post (kf _ _ _),?_,jE,jE⟩;constructor<;>intro k'<;>first|omega|skip
   refine⟨hset _,?_⟩;rw[hl];show nth (List.set _ _ _) x.toNat=3\/nth (List.set _ _ _) x.toNat=4;rw[hoth _ _ r3];show nth (Ck.ap _ _ _).types x.toNat=3\/nth (Ck.ap _ _ _).types x.toNat=4;rw[kf,r2];exact b1
  ·have e:bV (ar n) c a=((ar n c (c.ay a 0)).1.ap (decide ((ar n c (c.ay a 0)).2=1)) a,1):=by unfold bV;simp only;rw[hnode,k];rfl
   obtain⟨x,hl,hxe⟩:=sh.one jB;have hk0:c.ay a 0=x:=by rw[kd,hl];rfl
   rw[e]at hset hoth he ⊢;rw[hk0]at hset hoth he ⊢;obtain⟨b1,b2⟩:=im he;simp only[decide_eq_true_eq]at b1;obtain⟨r1,r2,r3⟩:=kid1 c x h hc hv rfl hl (.inl hxe) b2;refine⟨r1.post (kf _ _ _),?_,jE,jE⟩;constructor<;>intro k'<;>first|omega|skip
   refine⟨hset _,?_⟩;rw[hl];show nth (List.set _ _ _) x.toNat=1;rw[hoth _ _ r3];show nth (Ck.ap _ _ _).types x.toNat=1;rw[kf,r2];exact b1
  ·have e:bV (ar n) c a=((ar n c (c.ay a 0)).1.ap (decide ((ar n c (c.ay a 0)).2=2)) a,2):=by unfold bV;simp only;rw[hnode,k];rfl
   obtain⟨x,hl,hxe⟩:=sh.one jB;have hk0:c.ay a 0=x:=by rw[kd,hl];rfl
   rw[e]at hset hoth he ⊢;rw[hk0]at hset hoth he ⊢;obtain⟨b1,b2⟩:=im he;simp only[decide_eq_true_eq]at b1;obtain⟨r1,r2,r3⟩:=kid1 c x h hc hv rfl hl (.inl hxe) b2;refine⟨r1.post (kf _ _ _),?_,jE,jE⟩;constructor<;>intro k'<;>first|omega|skip
   refine⟨hset _,?_⟩;rw[hl];show nth (List.set _ _ _) x.toNat=2;rw[hoth _ _ r3];show nth (Ck.ap _ _ _).types x.toNat=2;rw[kf,r2];exact b1
  ·have e:bV (ar n) c a=((ar n (ar n c (c.ay a 0)).1 (c.ay a 1)).1.ap (!decide (gY (c.node a).name (ar n c (c.ay a 0)).2 (ar n (ar n c (c.ay a 0)).1 (c.ay a 1)).2=0)) a,gY (c.node a).name (ar n c (c.ay a 0)).2 (ar n (ar n c (c.ay a 0)).1 (c.ay a 1)).2):=by unfold bV;simp only;rw[hnode,k];rfl
   obtain⟨x,y,hl,hxe,hye⟩:=sh.two jB;have hk0:c.ay a 0=x:=by rw[kd,hl];rfl
   have hk1:c.ay a 1=y:=by rw[kd,hl];rfl
   rw[e]at hset hoth he ⊢;rw[hk0,hk1]at hset hoth he ⊢;obtain⟨b1,b2⟩:=im he;simp only[Bool.not_eq_true',decide_eq_false_iff_not]at b1;have ev:=dw n c x;have b0:(ar n c x).1.e=0:=(dw n _ y).e0 b2;rw[hl]at hch;obtain⟨c1,c2,c3,c4,c5,c6⟩:=iz hch;obtain⟨d1,d2,d3,d4,d5⟩:=jT c6;obtain⟨r1,r2,_⟩:=hx c x lo h hc hv c1 c2 jB (.inl hxe) c5 b0;obtain⟨q1,q2,_⟩:=hx (ar n c x).1 y (x.toNat+1) (h.ev ev) (ev.aa.trans hc) (hv.ev ev) d1 d2 jB (.inl hye) d5 b2;have rr:=r1.seq ht (aG.kM c1 c2 c5) jB jB q1;rw[d4];refine⟨rr.post (kf _ _ _),?_,Jf _ _ _⟩;rw[d4]at hset hoth;rw[<-d4];rw[<-d4]at hset hoth;have ex:nth ((ar n (ar n c x).1 y).1.types) x.toNat=(ar n c x).2:=by rw[q1.tw _ jB,r2]
   constructor<;>intro k'<;>first|omega|skip
   have g0:=hset (gY (c.node a).name (ar n c x).2 (ar n (ar n c x).1 y).2);have g1:=hoth (gY (c.node a).name (ar n c x).2 (ar n (ar n c x).1 y).2) x.toNat jB;have g2:=hoth (gY (c.node a).name (ar n c x).2 (ar n (ar n c x).1 y).2) y.toNat jB;simp only[kf]at g0 g1 g2 ⊢;rw[hl];show _=gY _ (nth _ x.toNat) (nth _ y.toNat)/\_;rw[g0,g1,g2,ex,q2,<-hnode];exact⟨rfl,b1⟩
  ·have e:bV (ar n) c a=(c,1):=by unfold bV;simp only;rw[hnode,k];rfl
   rw[e]at hset ⊢;refine⟨leaf (sh.zero jB) _ rfl,?_,jE,jE⟩;constructor<;>intro k'<;>first|omega|exact hset _
  ·have e:bV (ar n) c a=((ar n c (c.ay a 0)).1.ap (decide ((ar n c (c.ay a 0)).2=1)) a,4):=by unfold bV;simp only;rw[hnode,k];rfl
   obtain⟨x,hl,hxe⟩:=sh.one jB;have hk0:c.ay a 0=x:=by rw[kd,hl];rfl
   rw[e]at hset he ⊢;rw[hk0]at hset he ⊢;obtain⟨b1,b2⟩:=im he;obtain⟨r1,r2,r3⟩:=kid1 c x h hc hv rfl hl (.inl hxe) b2;refine⟨r1.post (kf _ _ _),?_,jE,jE⟩;constructor<;>intro k'<;>first|omega|exact hset _
  ·have e:bV (ar n) c a=gq (ar n) c a:=by unfold bV;simp only;rw[hnode,k];rfl
   rw[e]at he ⊢;obtain⟨r1,r2,r3⟩:=KG ht hx h hc hv h0 h1 jB k hch he;refine⟨r1,?_,r2⟩;constructor<;>intro k'<;>first|omega|exact r3
theorem fW.skip{c:Ck}(hk:dL (bt t.nodes a)\/bt t.nodes a=18)(hcd:(nth t.nodes a.toNat).kind=15\/(nth t.nodes a.toNat).kind=16\/(nth t.nodes a.toNat).kind=10->((nth t.nodes a.toNat).kind=10\/nth c'.types (nth (nth t.nodes a.toNat).l 0).toNat=2)/\1<=nth c'.types (nth (nth t.nodes a.toNat).l 0).toNat/\nth c'.types (nth (nth t.nodes a.toNat).l 0).toNat<=4)(r:fW t lo a.toNat c c'):fW t lo (a.toNat+1) c c':=by
 refine⟨r.tw.mono jl jB,fun k h1 h2=>?_⟩;by_cases h:k<a.toNat
 ·exact r.all k h1 h
 ·have:k=a.toNat:=jB;subst this;have hk:dL (nth t.nodes a.toNat).kind\/(nth t.nodes a.toNat).kind=18:=hk;unfold dL at hk;constructor<;>intro k'<;>first|omega|exact(hcd jB).1.resolve_left jB|exact(hcd jB).2
def FO(t:az)(n:Nat):Prop:=∀(c:Ck) (a:Int) (lo:Nat),bu c->c.aa=t->bR c->c.e=0->0<=a->a<t.nodes.length->a.toNat<n->dL (bt t.nodes a)->aG t.nodes lo (nth t.nodes a.toNat).l a.toNat->(bv n c a).e=0->
 fW t lo (a.toNat+1) c (bv n c a)/\bR (bv n c a)
theorem Sv.e0{c:Ck}(s:Sv c c')(h:c'.e=0):c.e=0:=Classical.byContradiction fun e=>s.err e h
theorem wP{t:az}(ht:aH t){st:Ck->Int->Ck}{C:Int->Prop}{n:Nat}(hs:∀c a,bu c->c.e=0->Sv c (st c a))
  (hst:∀(c:Ck) (a:Int) (lo:Nat),bu c->c.aa=t->bR c->c.e=0->0<=a->a<t.nodes.length->a.toNat<n->C (bt t.nodes a)->aG t.nodes lo (nth t.nodes a.toNat).l a.toNat->(st c a).e=0->fW t lo (a.toNat+1) c (st c a)/\bR (st c a)) :
  ∀(L:List Int) (c:Ck) (lo hi:Nat),bu c->c.aa=t->bR c->hi<=n->hi<=t.nodes.length->(∀x∈L,C (bt t.nodes x))->aG t.nodes lo L hi->(de st c L).e=0->fW t lo hi c (de st c L)/\bR (de st c L)
 |[],c,lo,hi,h,hc,hv,hn,hl,hr,hch,he=>by cases hch;unfold de;exact⟨⟨.refl _ _ _,.none⟩,hv⟩
 |a::L,c,lo,hi,h,hc,hv,hn,hl,hr,hch,he=>by have e0:=(og hs (a::L) c h).e0 he;unfold de at he ⊢;rw[if_pos e0]at he ⊢;obtain⟨c1,c2,c3,c4,c5,c6⟩:=iz hch;have s:=hs c a h e0;have e1:=(og hs L _ s.inv).e0 he;obtain⟨r1,v1⟩:=hst c a lo h hc hv e0 c1 c2 jB (hr a jE) c5 e1;obtain⟨r2,v2⟩:=wP ht hs hst L _ _ hi s.inv (s.aa.trans hc) v1 hn hl (fun x hx=>hr x (by simp[hx])) c6 he;exact⟨r1.seq ht (aG.kM c1 c2 c5) jB jB r2,v2⟩
theorem yO(ht:aH t)(hst:FO t n)(c:Ck)(a:Int)(lo:Nat)(h:bu c)(hc:c.aa=t)(hv:bR c)(h0:0<=a)(h1:a<t.nodes.length)(hn:a.toNat<=n)(hk:bt t.nodes a=18)(hch:aG t.nodes lo (nth t.nodes a.toNat).l a.toNat)(he:(dZ (bv n) c a).e=0) :
  fW t lo (a.toNat+1) c (dZ (bv n) c a)/\bR (dZ (bv n) c a):=by
 have sv:=oZ (kY n) h a;have hnode:c.node a=nth t.nodes a.toNat:=by unfold Ck.node;rw[hc]
 have hb:=(ht.shape a.toNat jB).1.block hk;have ev:=pw c a;obtain⟨r,_⟩:=wP ht (kY n) (C:=dL) hst (c.node a).l (c.ac a) lo a.toNat (h.ev ev) (ev.aa.trans hc) (hv.ev ev) hn jB (fun x hx=>hb x (by rw[<-hnode];exact hx)) (by rw[hnode];exact hch) he;have r:fW t lo a.toNat c (dZ (bv n) c a):=fW.post (b:=de (bv n) (c.ac a) (c.node a).l) (fW.pre (a:=c) (b:=c.ac a) rfl r) rfl;have hk18:(nth t.nodes a.toNat).kind=18:=hk;refine⟨r.skip (.inr hk) (fun h=>jB),?_⟩;unfold bR;rw[sv.2];exact hv
theorem v6(ht:aH t){c c0:Ck}{x:Int}(h:bu c0)(hc:c0.aa=t)(hv:bR c0)(hty:c0.types=c.types)(hn:a.toNat<=n)(hl:(nth t.nodes a.toNat).l=[x])(hx:dW (bt t.nodes x))(hch:aG t.nodes lo (nth t.nodes a.toNat).l a.toNat)(he:(ar n c0 x).1.e=0) :
  fW t lo a.toNat c (ar n c0 x).1/\0<=(ar n c0 x).2/\(ar n c0 x).2<=4/\nth (ar n c0 x).1.types x.toNat=(ar n c0 x).2:=by
 rw[hl]at hch;obtain⟨c1,c2,c3,c4,c5⟩:=jT hch;obtain⟨r1,r2,r3⟩:=tS ht n c0 x lo h hc hv c1 c2 jB hx c5 he;rw[c4];exact⟨r1.pre hty,r3.1,r3.2,r2⟩
theorem JI(ht:aH t){c c0:Ck}{x y:Int}(h:bu c0)(hc:c0.aa=t)(hv:bR c0)(hty:c0.types=c.types)(hn:a.toNat<=n)(hl:(nth t.nodes a.toNat).l=[x,y])(hx:bQ (bt t.nodes x))(hy:bQ (bt t.nodes y))(hch:aG t.nodes lo (nth t.nodes a.toNat).l a.toNat)(hle:a.toNat<=t.nodes.length)(he:(ar n (ar n c0 x).1 y).1.e=0) :
  fW t lo a.toNat c (ar n (ar n c0 x).1 y).1:=by
 rw[hl]at hch;obtain⟨c1,c2,c3,c4,c5,c6⟩:=iz hch;obtain⟨d1,d2,d3,d4,d5⟩:=jT c6;have ev:=dw n c0 x;obtain⟨r1,_⟩:=tS ht n c0 x lo h hc hv c1 c2 jB (.inl hx) c5 ((dw n _ y).e0 he);obtain⟨q1,_⟩:=tS ht n (ar n c0 x).1 y (x.toNat+1) (h.ev ev) (ev.aa.trans hc) (hv.ev ev) d1 d2 jB (.inl hy) d5 he;rw[d4];exact(r1.seq ht (aG.kM c1 c2 c5) jB jB q1).pre hty
theorem tC{c:Ck}{p:Prop}[Decidable p]{e:Int}(he:e≠0)(h:(if p then c.aF e a else c).e=0):¬p/\(if p then c.aF e a else c)=c:=by
 split at h
 ·exact(mi he h).elim
 ·rename_i hp;exact⟨hp,if_neg hp⟩
theorem uM{t:az}(ht:aH t):∀n,FO t n
 |0=>fun c a lo h hc hv e0 h0 h1 hn=>by omega
 |n+1=>fun c a lo h hc hv e0 h0 h1 hn hr hch he=>by
  have hs:=uM ht n;have hnode:(c.ac a).node a=nth t.nodes a.toNat:=by unfold Ck.node;show nth c.aa.nodes _=_;rw[hc]
  have sh:=(ht.shape a.toNat jB).1;have kd:∀i,(c.ac a).ay a i=nth (nth t.nodes a.toNat).l i:=fun i=>by unfold Ck.ay;rw[hnode]
  have ev:=pw c a;have h':=h.ev ev;have hc':=ev.aa.trans hc;have hv':=hv.ev ev;suffices hsf:fW t lo a.toNat c (bv (n+1) c a)/\bR (bv (n+1) c a)/\((nth t.nodes a.toNat).kind=15\/(nth t.nodes a.toNat).kind=16\/(nth t.nodes a.toNat).kind=10->((nth t.nodes a.toNat).kind=10\/nth (bv (n+1) c a).types (nth (nth t.nodes a.toNat).l 0).toNat=2)/\1<=nth (bv (n+1) c a).types (nth (nth t.nodes a.toNat).l 0).toNat/\nth (bv (n+1) c a).types (nth (nth t.nodes a.toNat).l 0).toNat<=4) from⟨hsf.1.skip (.inl hr) hsf.2.2,hsf.2.1⟩
  have hkr:(nth t.nodes a.toNat).kind=10\/(nth t.nodes a.toNat).kind=11\/(nth t.nodes a.toNat).kind=12\/(nth t.nodes a.toNat).kind=13\/(nth t.nodes a.toNat).kind=14\/(nth t.nodes a.toNat).kind=17\/(nth t.nodes a.toNat).kind=15\/(nth t.nodes a.toNat).kind=16:=by have:dL (nth t.nodes a.toNat).kind:=hr;unfold dL at this;omega
  rcases hkr with k|k|k|k|k|k|k
  ·have e:bv (n+1) c a=oB (ar n) (c.ac a) a:=by unfold bv;simp only;rw[hnode,k];rfl
   obtain⟨x,hl,hxr⟩:=sh.right jB;have hk0:(c.ac a).ay a 0=x:=by rw[kd,hl];rfl
   rw[e]at he ⊢;rw[sc]at he ⊢;have he:(dz (ar n) (c.ac a) a).e=0:=he;obtain⟨_,q1⟩:=tC jC he;have q1:dz (ar n) (c.ac a) a=iR (ar n) (c.ac a) a:=q1;rw[q1]at he;obtain⟨_,q2⟩:=tC jC he;have q2:iR (ar n) (c.ac a) a=gr (ar n) (c.ac a) a:=q2;rw[q2]at he;unfold gr at he;rw[hk0]at he;obtain⟨b1,b2⟩:=im he;simp only[Bool.not_eq_true',decide_eq_false_iff_not]at b1;obtain⟨r1,r2,r3,r4⟩:=v6 (c:=c) ht h' hc' hv' rfl jB hl hxr hch b2;have hty:(dz (ar n) (c.ac a) a).types=(ar n (c.ac a) x).1.types:=by rw[q1,q2];unfold gr;rw[hk0,kf]
   refine⟨r1.post hty,fun v hv2=>?_,fun _=>⟨.inl k,by rw[hl];show 1<=nth (dz (ar n) (c.ac a) a).types x.toNat/\nth (dz (ar n) (c.ac a) a).types x.toNat<=4;rw[hty,r4];omega⟩⟩
   have hv2:v∈(dz (ar n) (c.ac a) a).vars++[(⟨((c.ac a).node a).name,(ar n (c.ac a) ((c.ac a).ay a 0)).2,(dz (ar n) (c.ac a) a).size⟩:bC)]:=hv2;rcases List.mem_append.1 hv2 with hm|hm
   ·rw[(wQ (dw n) (c.ac a) a).vars]at hm;exact hv' v hm
   ·rw[List.mem_singleton.1 hm];show 1<=(ar n (c.ac a) ((c.ac a).ay a 0)).2/\(ar n (c.ac a) ((c.ac a).ay a 0)).2<=4;rw[hk0];omega
  ·have e:bv (n+1) c a=(ar n ((c.ac a).named a).1 ((c.ac a).ay a 0)).1.ap (decide (((c.ac a).named a).2=(ar n ((c.ac a).named a).1 ((c.ac a).ay a 0)).2)) a:=by unfold bv;simp only;rw[hnode,k];rfl
   obtain⟨x,hl,hxr⟩:=sh.right jB;have hk0:(c.ac a).ay a 0=x:=by rw[kd,hl];rfl
   rw[e]at he ⊢;rw[hk0]at he ⊢;obtain⟨b1,b2⟩:=im he;have en:=mG (c.ac a) a;obtain⟨r1,_⟩:=v6 (c:=c) ht (h'.ev en) (en.aa.trans hc') (hv'.ev en) (yU _ _) jB hl hxr hch b2;exact⟨r1.post (kf _ _ _),(hv'.ev en).ev ((dw n _ _).trans (iG _ _ _)),fun h=>jB⟩
  ·have e:bv (n+1) c a=(ar n (ar n ((c.ac a).named a).1 ((c.ac a).ay a 0)).1 ((c.ac a).ay a 1)).1.ap (decide (((c.ac a).named a).2=4) && decide ((ar n ((c.ac a).named a).1 ((c.ac a).ay a 0)).2=1) && decide ((ar n (ar n ((c.ac a).named a).1 ((c.ac a).ay a 0)).1 ((c.ac a).ay a 1)).2=1)) a:=by unfold bv;simp only;rw[hnode,k];rfl
   obtain⟨x,y,hl,hxe,hye⟩:=sh.two jB;have hk0:(c.ac a).ay a 0=x:=by rw[kd,hl];rfl
   have hk1:(c.ac a).ay a 1=y:=by rw[kd,hl];rfl
   rw[e]at he ⊢;rw[hk0,hk1]at he ⊢;obtain⟨b1,b2⟩:=im he;have en:=mG (c.ac a) a;have r1:=JI (c:=c) ht (h'.ev en) (en.aa.trans hc') (hv'.ev en) (yU _ _) jB hl hxe hye hch jB b2;exact⟨r1.post (kf _ _ _),(hv'.ev en).ev (((dw n _ _).trans (dw n _ _)).trans (iG _ _ _)),fun h=>jB⟩
  ·have e:bv (n+1) c a=(ar n (c.ac a) ((c.ac a).ay a 0)).1:=by unfold bv;simp only;rw[hnode,k];rfl
   obtain⟨x,hl,hxk⟩:=sh.nL k;have hk0:(c.ac a).ay a 0=x:=by rw[kd,hl];rfl
   rw[e]at he ⊢;rw[hk0]at he ⊢;obtain⟨r1,_⟩:=v6 (c:=c) ht h' hc' hv' rfl jB hl (by rw[hxk];unfold dW;omega) hch he;exact⟨r1,hv'.ev (dw n _ _),fun h=>jB⟩
  ·have e:bv (n+1) c a=(ar n (c.ac a) ((c.ac a).ay a 0)).1.ap (!decide ((ar n (c.ac a) ((c.ac a).ay a 0)).2=4)) a:=by unfold bv;simp only;rw[hnode,k];rfl
   obtain⟨x,hl,hxe⟩:=sh.one jB;have hk0:(c.ac a).ay a 0=x:=by rw[kd,hl];rfl
   rw[e]at he ⊢;rw[hk0]at he ⊢;obtain⟨b1,b2⟩:=im he;obtain⟨r1,_⟩:=v6 (c:=c) ht h' hc' hv' rfl jB hl (.inl hxe) hch b2;exact⟨r1.post (kf _ _ _),hv'.ev ((dw n _ _).trans (iG _ _ _)),fun h=>jB⟩
  ·have e:bv (n+1) c a=jZ (ar n) (c.ac a) a:=by unfold bv;simp only;rw[hnode,k];rfl
   rw[e]at he ⊢;unfold jZ at he ⊢;rw[hnode]at he ⊢;simp only at he ⊢;split at he
   ·exact(mi jC he).elim
   rename_i hf;rw[if_neg hf];rcases sh.ret k with hl|⟨x,hl,hxe⟩
   ·rw[hl];rw[if_neg jC];rw[hl]at hch;have:lo=a.toNat:=by cases hch;rfl
    subst this;exact⟨⟨.same rfl,.none⟩,hv',fun h=>jB⟩
   ·have hk0:(c.ac a).ay a 0=x:=by rw[kd,hl];rfl
    have hl1:(nth t.nodes a.toNat).l.length=1:=by rw[hl];rfl
    rw[if_pos hl1]at he ⊢;rw[hk0]at he ⊢;obtain⟨b1,b2⟩:=im he;obtain⟨r1,_⟩:=v6 (c:=c) ht h' hc' hv' rfl jB hl (.inl hxe) hch b2;exact⟨r1.post (kf _ _ _),hv'.ev ((dw n _ _).trans (iG _ _ _)),fun h=>jB⟩
  ·have e:bv (n+1) c a=de (dZ (bv n)) ((ar n (c.ac a) ((c.ac a).ay a 0)).1.ap (decide ((ar n (c.ac a) ((c.ac a).ay a 0)).2=2)) a) (((c.ac a).node a).l.drop 1):=by
    unfold bv;simp only;rw[hnode];rcases k with k|k<;>rw[k]<;>rfl
   have hsh:∃x L,(nth t.nodes a.toNat).l=x::L/\bQ (bt t.nodes x)/\∀y∈L,bt t.nodes y=18:=by
    rcases k with k|k
    ·obtain⟨x,y,hx,hy,hl|⟨z,hl,hz⟩⟩:=sh.kz k
     ·exact⟨x,[y],hl,hx,fun u hu=>by rw[List.mem_singleton.1 hu];exact hy⟩
     ·exact⟨x,[y,z],hl,hx,fun u hu=>by
       rcases List.mem_cons.1 hu with rfl|hu
       ·exact hy
       ·rw[List.mem_singleton.1 hu];exact hz⟩
    ·obtain⟨x,y,hl,hx,hy⟩:=sh.dS k;exact⟨x,[y],hl,hx,fun u hu=>by rw[List.mem_singleton.1 hu];exact hy⟩
   obtain⟨x,L,hl,hxe,hL⟩:=hsh;have hk0:(c.ac a).ay a 0=x:=by rw[kd,hl];rfl
   rw[e]at he ⊢;rw[hnode,hl,hk0]at he ⊢;have he:(de (dZ (bv n)) ((ar n (c.ac a) x).1.ap (decide ((ar n (c.ac a) x).2=2)) a) L).e=0:=he;show fW t lo a.toNat c (de (dZ (bv n)) ((ar n (c.ac a) x).1.ap (decide ((ar n (c.ac a) x).2=2)) a) L)/\bR (de (dZ (bv n)) ((ar n (c.ac a) x).1.ap (decide ((ar n (c.ac a) x).2=2)) a) L)/\((nth t.nodes a.toNat).kind=15\/(nth t.nodes a.toNat).kind=16\/(nth t.nodes a.toNat).kind=10->((nth t.nodes a.toNat).kind=10\/nth (de (dZ (bv n)) ((ar n (c.ac a) x).1.ap (decide ((ar n (c.ac a) x).2=2)) a) L).types (nth (x::L) 0).toNat=2)/\1<=nth (de (dZ (bv n)) ((ar n (c.ac a) x).1.ap (decide ((ar n (c.ac a) x).2=2)) a) L).types (nth (x::L) 0).toNat/\nth (de (dZ (bv n)) ((ar n (c.ac a) x).1.ap (decide ((ar n (c.ac a) x).2=2)) a) L).types (nth (x::L) 0).toNat<=4);have ex:=(dw n (c.ac a) x).trans (iG _ (decide ((ar n (c.ac a) x).2=2)) a);have hin:=h'.ev ex;have hsb:∀(q:Ck) b,bu q->q.e=0->Sv q (dZ (bv n) q b):=fun q b hq _=>(oZ (kY n) hq b).1
   have e1:=(og hsb L _ hin).e0 he;obtain⟨b1,b2⟩:=im e1;rw[hl]at hch;obtain⟨c1,c2,c3,c4,c5,c6⟩:=iz hch;obtain⟨r1,r1b,_⟩:=tS ht n (c.ac a) x lo h' hc' hv' c1 c2 jB (.inl hxe) c5 b2;obtain⟨r2,v2⟩:=wP ht hsb (C:=fun k=>k=18) (n:=n) (fun q b l g1 g2 g3 _ g5 g6 g7 g8 g9 g10=>yO ht hs q b l g1 g2 g3 g5 g6 jB g8 g9 g10) L _ (x.toNat+1) a.toNat hin (ex.aa.trans hc') (hv'.ev ex) jB jB hL c6 he;exact⟨((fW.pre (a:=c) (b:=c.ac a) rfl r1).post (kf _ _ _)).seq ht (aG.kM c1 c2 c5) jB jB r2,v2,fun _=>by show(_\/nth _ x.toNat=2)/\1<=nth _ x.toNat/\nth _ x.toNat<=4;rw[r2.tw x.toNat (.inl jB),kf,r1b];have:=of_decide_eq_true b1;omega⟩
theorem Co{t:az}(body:Int):∀(ps:List bE) (c:Ck) (i:Int),bR c->(∀p∈ps,1<=p.ty/\p.ty<=4)->bR (dU body c ps i)/\(dU body c ps i).types=c.types/\((dU body c ps i).e=0->c.e=0)
 |[],c,i,h,hp=>by unfold dU;exact⟨h,rfl,id⟩
 |p::ps,c,i,h,hp=>by
  have fin:∀c1:Ck,Ev c c1->c1.types=c.types->bR (dU body (kg c1 ⟨p.name,p.ty,i⟩) ps (i+1))/\(dU body (kg c1 ⟨p.name,p.ty,i⟩) ps (i+1)).types=c.types/\((dU body (kg c1 ⟨p.name,p.ty,i⟩) ps (i+1)).e=0->c.e=0):=fun c1 s e=>by
   obtain⟨a,b,d⟩:=Co (t:=t) body ps (kg c1 ⟨p.name,p.ty,i⟩) (i+1) (fun v hv=>by
    have hv:v∈c1.vars++[(⟨p.name,p.ty,i⟩:bC)]:=hv;rcases List.mem_append.1 hv with hv|hv
    ·exact h.ev s v hv
    ·rw[List.mem_singleton.1 hv];exact hp p jE) (fun q hq=>hp q (by simp[hq]))
   exact⟨a,b.trans e,fun hh=>s.e0 (d hh)⟩
  unfold dU;simp only;split
  ·exact fin _ (mC c jC body) (Bo _ _ _)
  ·exact fin _ (.refl c) rfl
theorem M6(ht:aH t){c:Ck}(h:fv c)(hc:c.aa=t)(hk:k<t.ao.length)(hsz:c.aP.length<6)(hch:aG t.nodes lo (nth t.nodes (nth t.ao k).body.toNat).l (nth t.ao k).body.toNat)(he:(fA c k).e=0) :
  fW t lo ((nth t.ao k).body.toNat+1) c (fA c k)/\c.e=0:=by
 have hk':k<c.aa.ao.length:=by rw[hc];exact hk
 have hp3:=h.aa.fn _ (dT hk');have hi0:bu { c with fn:=(k:Int),vars:=[],more:=[],size:=0 }:=⟨h.aa,h.types,h.slots,h.ao,by show c.aP.length<=6;omega,by show(0:Int)<=k;omega,by show(k:Int)<(c.aa.ao.length:Int);omega,by show((0:Nat):Int)<=0;omega,by show(0:Int)<=25;omega,fun _=>by show(0:Int)<=24;omega⟩;obtain⟨a,b,d⟩:=xy (nth c.aa.ao k).body (nth c.aa.ao k).params _ 0 hi0 (by show(0:Int)+_<=20;omega);obtain⟨a',b',d'⟩:=Co (t:=t) (nth c.aa.ao k).body (nth c.aa.ao k).params { c with fn:=(k:Int),vars:=[],more:=[],size:=0 } 0 (fun v hv=>by simp at hv) hp3.1.ps;have hbN:=oG ht hk;have hbk:=ht.body _ (dT hk);unfold fA at he ⊢;simp only at he ⊢;rw[hc]at he ⊢;rw[hc]at a b d a' b' d';split at he
 ·rename_i e1;rw[if_pos e1];obtain⟨r,_⟩:=yO ht (uM ht t.nodes.length) _ (nth t.ao k).body lo a (b.trans (by rfl)) a' hbN.1 hbN.2 (by have:=hbN.2;have:=hbN.1;omega) hbk hch he;have q:=fW.pre (a:=c) b' r;exact⟨⟨fun k hk=>q.tw k hk,q.all⟩,d' e1⟩
 ·rename_i e1;exact(e1 he).elim
theorem wy{t:az}(ht:aH t):∀(n i lo:Nat) (c:Ck),fv c->c.aa=t->c.aP.length=i->i+n=t.ao.length->aG t.nodes lo ((t.ao.drop i).map (·.body)) t.nodes.length->(fE c i n).e=0->
  fW t lo t.nodes.length c (fE c i n)/\(fE c i n).aa=t/\fv (fE c i n)/\(fE c i n).aP.length=t.ao.length
 |0,i,lo,c,h,hc,hs,hi,hch,he=>by
  unfold fE;rw[List.drop_eq_nil_of_le jB]at hch;have:lo=t.nodes.length:=by cases hch;rfl
  subst this;exact⟨⟨.refl _ _ _,.none⟩,hc,h,jB⟩
 |n+1,i,lo,c,h,hc,hs,hi,hch,he=>by
  have h6:=ht.ao;unfold fE at he ⊢;by_cases e0:c.e=0
  ·rw[if_pos e0]at he ⊢;have hk:i<t.ao.length:=jB;rw[lj hk]at hch;obtain⟨c1,c2,c3,c4,c5,c6⟩:=iz (a:=(nth t.ao i).body) hch;obtain⟨f1,f2,f3⟩:=vS h (by rw[hc];exact hk) (by omega:c.aP.length<6);have e1:(fA c i).e=0:=by
    cases n with
    |zero=>unfold fE at he;exact he
    |succ m=>
     unfold fE at he;split at he
     ·assumption
     ·exact he
   obtain⟨r1,_⟩:=M6 ht h hc hk jB c5 e1;obtain⟨r2,q1,q2,q3⟩:=wy ht n (i+1) ((nth t.ao i).body.toNat+1) (fA c i) f1 (f2.trans hc) jB jB c6 he;exact⟨r1.seq ht (aG.kM c1 c2 c5) jB jB r2,q1,q2,q3⟩
  ·rw[if_neg e0]at he;exact(e0 he).elim
structure si(p:ab):Prop where
 aa:aH p.aa
 types:p.types.length=p.aa.nodes.length
 slots:p.slots.length=p.aa.nodes.length
 fn:p.fn.length=p.aa.nodes.length
 size:p.size.length=p.aa.ao.length
 ty:fT p.aa p.types 0 p.aa.nodes.length
theorem BP(ht:aH t):fv (iY (jq t))/\(iY (jq t)).aa=t/\(iY (jq t)).aP=[]:=by
 have ev:=EO (jq t);refine⟨⟨by rw[ev.aa];exact ht,?_,?_,?_⟩,ev.aa,ev.aP⟩
 ·rw[ev.types,ev.aa];show(t.nodes.map _).length=t.nodes.length;simp
 ·rw[ev.slots,ev.aa];show(t.nodes.map _).length=t.nodes.length;simp
 ·rw[ev.ao,ev.aa];show(t.nodes.map _).length=t.nodes.length;simp
theorem Av(ht:aH t)(he:(gP t).2.2=0):si (gP t).1/\(gP t).1.aa=t:=by
 unfold gP at he ⊢;split at he
 ·rename_i h;exact(h he).elim
 rename_i h;rw[if_neg h];have h:(iv t).e=0:=jB;obtain⟨i1,i2,i3⟩:=BP ht;obtain⟨r,q1,q2,q3⟩:=wy ht t.ao.length 0 0 (iY (jq t)) i1 i2 (by rw[i3];rfl) jB (by rw[List.drop_zero];exact ht.chain) h;refine⟨⟨q2.aa,q2.types,q2.slots,q2.ao,?_,?_⟩,q1⟩
 ·show(iv t).aP.length=(iv t).aa.ao.length;have e:(iv t).aa=t:=q1;rw[e];exact q3
 ·show fT (iv t).aa (iv t).types 0 (iv t).aa.nodes.length;have e:(iv t).aa=t:=q1;rw[e];exact r.all
theorem Jd{s:ByteArray}(he:(gf s).2.2=0):si (gf s).1:=by
 unfold gf at he ⊢;split at he
 ·rename_i h;exact(h he).elim
 rename_i h;rw[if_neg h];have h:(gH s).2.2=0:=jB;simp only at he ⊢;split at he
 ·cases he
 rename_i h2;split at he
 ·rename_i h3;exact(h3 he).elim
 rename_i h3;rw[if_neg h2,if_neg h3];exact(Av (xv h) jB).1
end Go.Proofs.YtfkgcobaheegbaaGreatDoor

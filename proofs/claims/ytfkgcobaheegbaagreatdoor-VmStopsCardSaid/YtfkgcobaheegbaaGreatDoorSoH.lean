/- Lemmas. No conditions. -/
import Derived.Test.YtfkgcobaheegbaaGreatDoorWd
set_option linter.all false
set_option maxHeartbeats 4000000
set_option maxRecDepth 10000
namespace Go.Proofs.YtfkgcobaheegbaaGreatDoor
open Go Go.Gd Tryz
theorem wq{α:Type}[Inhabited α]{a b:List α}(hl:a.length=b.length)(h:∀j,j<a.length->nth a j=nth b j):a=b:=by apply List.ext_getElem hl;intro i h1 h2;have:=h i h1;rwa [dN h1,dN h2]at this
theorem JV(a b:List Int)(ha:a.length<=1000000000):eG prog 61 [bp eI 1 a,bp eI 1 b] (rB (decide (a=b))):=by
 refine fm func61 ntmps61 ?_
 (repeat' (first|refine aB fun K hK=>?_|refine aC ?_|(refine hK _ _ ?_;clear hK K)|(refine aA ?_ ?_<;>intro hc<;>try exact jz)|refine aD ?_|exact jI|(clear hK K)))
 ·(refine bH [.tmp 4] ?_;try simp only[go_sem])
  rw[show decide (a=b)=false from decide_eq_false fun h=>hc (by rw[h])]
 have hl:a.length=b.length:=jB;have hKo:=hK;clear hK;refine fi (S:=Nat) [(4,2),(11,15)] (fun k=>k<=a.length/\∀j,j<k->nth a j=nth b j) (fun k=>[(5,rI k)]) (fun k=>⟨[],[]⟩) (fun k=>a.length-k) 0 ⟨jB,fun j h=>jB⟩ (fj jD cQ) ?_;rintro k ⟨hk1,hk2⟩ Kr hKr
 (refine S ?_;try exact jI)
 (repeat' (first|refine aB fun K hK=>?_|refine aC ?_|(with_reducible refine gR 6 ?_);refine dE 6 [0,1,2,3,4,5,6,7,8] mixed ?_|(refine hK _ _ ?_;clear hK K)|(refine aA ?_ ?_<;>intro hc<;>try exact jz)|refine hKo _ _ ?_|refine aD ?_|exact jI|(clear hK K)))
 ·(refine bH [.tmp 4] ?_;try simp only[go_sem])
  rw[show decide (a=b)=false from decide_eq_false fun h=>hc (by rw[h])]
 ·refine hKr _ _ (fw (k+1) ⟨jB,fun j hj=>?_⟩ jJ jD cQ);by_cases h:j<k
  ·exact hk2 j h
  ·rw[show j=k from jB];exact hc
 ·(refine bH [.tmp 4] ?_;try simp only[go_sem])
  rw[show decide (a=b)=true from decide_eq_true (wq hl fun j hj=>hk2 j jB)]
theorem Ep(n:Int):cY (IntKind.i64.wrap n):=by unfold cY;rw[IntKind.wrap_i64];omega
theorem ny:cY 0:=by unfold cY;omega
theorem yu(b:Bool):cY (vB b).n:=by cases b<;>(show cY _;unfold vB cY;simp)
theorem Jy{a b:Int}(h:cY a):cY (a.tmod b):=by
 unfold cY at*;by_cases h0:0<=a
 ·have h1:0<=a.tmod b:=Int.tmod_nonneg b h0;have h2:a.tmod b<=a:=by
   have:=Int.mul_tdiv_add_tmod a b;by_cases hb:b=0
   ·subst hb;simp
   ·have hn:=Int.natAbs_tmod a b;have:(a.tmod b).natAbs<=a.natAbs:=by rw[hn];exact Nat.mod_le _ _
    omega
  omega
 ·have hn:=Int.natAbs_tmod a b;have:(a.tmod b).natAbs<=a.natAbs:=by rw[hn];exact Nat.mod_le _ _
  have h3:a.tmod b<=0:=by have:=Int.tmod_nonneg b (a:=-a) jB;rw[Int.neg_tmod]at this;omega
  omega
theorem IX(s:ByteArray){a b:Int}(ha:cY a):cY (sZ s a b).1.n:=by
 unfold sZ
 (repeat' split)<;>first|exact Ep _|exact ny|exact yu _|exact Jy ha
theorem K4(s:ByteArray){a b:ak}(ha:cY a.n):cY (kN s a b).1.n:=by
 unfold kN
 (repeat' split)<;>first|exact IX _ ha|exact ny|exact yu _
theorem Ho(s:ByteArray)(a:ak):cY (kQ s a).n:=by
 unfold kQ
 (repeat' split)<;>first|exact Ep _|exact ny|exact yu _
def oK(l:List ak):Prop:=∀v∈l,cY v.n
def z8(h:List (List Int)):Prop:=∀l∈h,∀x∈l,cY x
def L0(p:ab):Prop:=∀k,k<p.aa.nodes.length->(nth p.aa.nodes k).kind=1->cY (nth p.aa.nodes k).n
theorem si.cY{p:ab}(h:si p):L0 p:=fun k hk h1=>by
 obtain⟨s,hs,e⟩:=(h.aa.shape k hk).1.num h1;have hle:=F6 hs;have hnum:pj s=(j7 s.data.toList 0:Nat):=by unfold pj;rw[Cf s hs.2.2 _ jl,List.take_of_length_le jE]
 rw[e,hnum];unfold Go.Gd.cY;omega
theorem Qe{l:List ak}(h:oK l)(k t:Int):cY (dp l k t).n:=by
 unfold dp
 (repeat' split)<;>first|exact ny|exact h _ (dT jB)
theorem Nq{h:List (List Int)}(hr:z8 h)(v:ak)(k:Nat)(hk:k<(lz h v).length):cY (nth (lz h v) k):=by
 unfold lz at hk ⊢;split at hk
 ·simp at hk
 ·rename_i e;rw[if_neg e];exact hr _ (dT jB) _ (dT hk)
theorem od{c:Prop}[Decidable c]{x y:ak×Int}(h:c->cY x.1.n)(k:¬c->cY y.1.n):cY (if c then x else y).1.n:=by
 by_cases e:c
 ·rw[if_pos e];exact h e
 ·rw[if_neg e];exact k e
theorem DY{p:ab}(h:si p){slots:List ak}{heap:List (List Int)}(h1:oK slots)(h2:z8 heap)(h3:∀l∈heap,l.length<=1000000):∀(n:Nat) (a:Int),0<=a->a.toNat<p.aa.nodes.length->a.toNat<n->bQ (bt p.aa.nodes a)->cY (eN p slots heap n a).1.n
 |0,a,_,_,hn,_=>by omega
 |n+1,a,h0,hl,hn,hk=>by
  have sh:=h.aa.shape a.toNat hl;have hk:1<=(nth p.aa.nodes a.toNat).kind/\(nth p.aa.nodes a.toNat).kind<=9:=hk;have hlen:∀v:ak,((lz heap v).length:Int)<=1000000:=fun v=>by
   unfold lz;split
   ·simp
   ·have:=h3 _ (dT (l:=heap) (k:=(v.n-1).toNat) jB);omega
  have hX:(∃x y,(nth p.aa.nodes a.toNat).l=[x,y]/\bQ (bt p.aa.nodes x))\/(∃x,(nth p.aa.nodes a.toNat).l=[x]/\bQ (bt p.aa.nodes x))\/(nth p.aa.nodes a.toNat).kind<=4:=by
   by_cases e:(nth p.aa.nodes a.toNat).kind=9
   ·obtain⟨x,y,g1,g2,_⟩:=sh.1.two (.inl e);exact .inl ⟨x,y,g1,g2⟩
   ·by_cases e4:(nth p.aa.nodes a.toNat).kind<=4
    ·exact .inr (.inr e4)
    ·obtain⟨x,g1,g2⟩:=sh.1.one jB;exact .inr (.inl ⟨x,g1,g2⟩)
  have hX0:4<(nth p.aa.nodes a.toNat).kind->cY (eN p slots heap n (nth (nth p.aa.nodes a.toNat).l 0)).1.n/\(eN p slots heap n (nth (nth p.aa.nodes a.toNat).l 0)).1.s.size<=40:=fun hk4=>by
   have:∃x,nth (nth p.aa.nodes a.toNat).l 0=x/\x∈(nth p.aa.nodes a.toNat).l/\bQ (bt p.aa.nodes x):=by
    rcases hX with⟨x,y,g1,g2⟩|⟨x,g1,g2⟩|g
    ·exact⟨x,by rw[g1];rfl,by rw[g1];simp,g2⟩
    ·exact⟨x,by rw[g1];rfl,by rw[g1];simp,g2⟩
    ·omega
   obtain⟨x,g1,g2,g3⟩:=this;rw[g1];have hb:=sh.2.1 x g2;exact⟨DY h h1 h2 h3 n x hb.1 jB jB g3,(tJ h slots heap n x hb.1 jB jB g3).size⟩
  unfold eN;dsimp only;generalize eN p slots heap n (nth (nth p.aa.nodes a.toNat).l 0)=X at*;generalize eN p slots heap n (nth (nth p.aa.nodes a.toNat).l 1)=Y at*;refine od (fun e=>h.cY _ hl e) fun e1=>od (fun _=>yu _) fun e2=>od (fun _=>ny) fun e3=>od (fun _=>Qe h1 _ _) fun e4=>?_
  obtain⟨x1,x2⟩:=hX0 jB;refine od (fun _=>ny) fun e5=>od (fun _=>od (fun _=>ny) fun e=>Nq h2 _ _ jB) fun e6=>od (fun _=>od (fun _=>x1) fun _=>od (fun _=>ny) fun _=>K4 _ x1) fun e7=>od (fun _=>od (fun _=>?_) fun _=>?_) fun e8=>od (fun _=>Ho _ _) fun _=>Ho _ _
  ·show Go.Gd.cY (_:Int);unfold vI Go.Gd.cY;simp only;omega
  ·have:=hlen X.1;show Go.Gd.cY (_:Int);unfold vI Go.Gd.cY;simp only;omega
structure bP(R:RS):Prop where
 sl:∀f∈R.aK,oK f.slots
 hp:z8 R.heap
def lU(s:aJ):Prop:=bP (RS.of s)
theorem bP.aQ{R:RS}(h:bP R)(k:Nat){f:aI}(hf:oK f.slots):bP (R.aQ k f):=⟨fun g hg=>by
 rcases tH hg with rfl|hg
 ·exact hf
 ·exact h.sl g hg,h.hp⟩
theorem CR{α:Type}[Inhabited α](l:List α)(k:Nat):nth l k∈l\/nth l k=default:=by
 by_cases h:k<l.length
 ·exact .inl (dT h)
 ·right;unfold nth;rw[List.getD_eq_getElem?_getD,List.getElem?_eq_none jB];rfl
theorem bP.at_{R:RS}(h:bP R)(k:Nat):oK (nth R.aK k).slots:=by
 rcases CR R.aK k with e|e
 ·exact h.sl _ e
 ·rw[e];intro v hv;cases hv
theorem bP.on{R:RS}(h:bP R):bP R.on:=h.aQ _ (h.at_ _)
theorem PM{l:List ak}(h:oK l)(k:Nat){v:ak}(hv:cY v.n):oK (l.set k v):=fun x hx=>by
 rcases tH hx with rfl|hx
 ·exact hv
 ·exact h x hx
theorem bP.fS{R:RS}(h:bP R)(p:ab)(a:Int){v:ak}(hv:cY v.n):bP (R.fS p a v):=h.aQ _ (PM (h.at_ _) _ hv)
theorem bP.store{R:RS}(h:bP R)(p:ab)(a:Int){v:ak}(hv:cY v.n):bP (R.store p a v):=(h.fS p a hv).on
theorem bP.bL{R:RS}(h:bP R)(p:ab){v:ak}(hv:cY v.n):bP (R.bL p v):=by
 have hp:bP R.pop:=⟨h.sl,h.hp⟩;unfold RS.bL;split
 ·exact⟨h.sl,h.hp⟩
 split
 ·exact(hp.fS p _ hv).on
 ·exact hp.on
theorem bP.cut{R:RS}(h:bP R):bP R.cut:=⟨fun g hg=>by
 rcases tH hg with rfl|hg
 ·exact h.at_ _
 ·exact h.sl g hg,h.hp⟩
theorem bP.settle{p:ab}:∀(n:Nat) {R:RS},bP R->bP (jL p n R)
 |0,R,h=>h
 |n+1,R,h=>by
  unfold jL;split
  ·exact h
  split
  ·exact bP.settle n (h.bL p ny)
  split
  ·exact h
  ·exact bP.settle n h.cut
theorem bP.push{R:RS}(h:bP R){f:aI}(hf:oK f.slots):bP (R.push f):=⟨fun g hg=>by
 have hg:g∈R.aK++[f]:=hg;rcases List.mem_append.1 hg with hg|hg
 ·exact h.sl g hg
 ·rw[List.mem_singleton]at hg;subst hg;exact hf,h.hp⟩
theorem bP.bs{R:RS}(h:bP R)(b:Int):bP (R.bs b):=h.aQ _ (h.at_ _)
theorem F4{p:ab}(R:RS):∀(l:List Int) (a:List ak),(∀x∈l,cY (R.val p x).1.n)->oK a->oK (R.args p l a).1
 |[],a,_,h=>by unfold RS.args;exact h
 |x::l,a,hl,h=>by
  unfold RS.args;split
  ·exact h
  ·refine F4 R l _ (fun y hy=>hl y (by simp[hy])) fun v hv=>?_
   rcases List.mem_append.1 hv with hv|hv
   ·exact h v hv
   ·rw[List.mem_singleton]at hv;subst hv;exact hl x jE
theorem FD(p:ab)(fn:Int){a:List ak}(h:oK a):oK (jc p fn a).slots:=fun v hv=>by
 have hv:v∈a++List.replicate _ v0:=hv;rcases List.mem_append.1 hv with hv|hv
 ·exact h v hv
 ·rw[(List.mem_replicate.1 hv).2];exact ny
theorem bP.val{p:ab}(hs:dx p){R:RS}(h:bP R)(hc:ga R.heap<=40){x:Int}(h0:0<=x)(hl:x.toNat<p.aa.nodes.length)(hE:bQ (bt p.aa.nodes x)):cY (R.val p x).1.n:=
 DY hs.ok (h.at_ _) h.hp (fun l hm=>by obtain⟨k,hk,rfl⟩:=List.getElem_of_mem hm;have:=Bx R.heap k hk;rw[dN hk]at this;omega) _ x h0 hl jB hE
theorem bP.call{p:ab}(hs:dx p){R:RS}(h:bP R)(hc:ga R.heap<=40){a:Int}(hl:a.toNat<p.aa.nodes.length)(hk:(ai p a).kind=21):bP (R.call p a).1:=by
 have sh:=hs.ok.aa.shape a.toNat hl;unfold RS.call;simp only;split
 ·exact h
 split
 ·exact h
 ·refine h.push (FD p _ (F4 R _ _ (fun x hx=>?_) fun v hv=>by cases hv));have:=sh.2.1 x hx;exact h.val hs hc this.1 jB (sh.1.call hk x hx)
theorem bP.bT{p:ab}(hs:dx p){R:RS}(h:bP R)(hc:ga R.heap<=40){node:Int}(h0:0<=node)(hl:node.toNat<p.aa.nodes.length){inp:List Int}(hi:∀x∈inp,cY x):bP (R.bT p node inp).1:=by
 have sh:=hs.ok.aa.shape node.toNat hl;have ay:∀x∈(ai p node).l,0<=x/\x.toNat<p.aa.nodes.length:=fun x hx=>by have:=sh.2.1 x hx;omega
 have hv:∀x∈(ai p node).l,bQ (bt p.aa.nodes x)->cY (R.val p x).1.n:=fun x hx hE=>h.val hs hc (ay x hx).1 (ay x hx).2 hE
 unfold RS.bT;simp only;split
 ·rename_i e;obtain⟨a,ha,hr⟩:=sh.1.right e;have hla:(ai p node).l=[a]:=ha;have ha0:=ay a (by rw[hla];simp);have hx:nth (ai p node).l 0=a:=by rw[hla];rfl
  unfold RS.right;simp only[hx];split
  ·rename_i e1;exact h.call hs hc ha0.2 e1
  split
  ·refine bP.store (R:={ R with in_:=R.in_+1 }) ⟨h.sl,h.hp⟩ p node ?_;show cY (nth inp _);rcases CR inp R.in_.toNat with e|e
   ·exact hi _ e
   ·rw[e];exact ny
  split
  ·unfold RS.fresh;simp only;have hf:∀(n:Nat),bP { R with heap:=R.heap++[List.replicate n 0] }:=fun n=>⟨h.sl,fun l hm=>by
    have hm:l∈R.heap++[List.replicate n 0]:=hm;rcases List.mem_append.1 hm with hm|hm
    ·exact h.hp l hm
    ·rw[List.mem_singleton]at hm;subst hm;intro x hx;rw[(List.mem_replicate.1 hx).2];exact ny⟩
   have hlen:=BE R.heap;have key:∀r:RS×ak×Int,bP r.1->cY r.2.1.n->bP (if r.2.2=0 then(r.1.store p node r.2.1,(0:Int))else(r.1,r.2.2)).1:=fun r g1 g2=>by
    split
    ·exact g1.store p node g2
    ·exact g1
   refine key _ ?_ ?_
   ·(repeat' split)<;>first|exact h|exact hf _
   ·(repeat' split)<;>first|exact ny|(show cY (_:Int);unfold cY;simp only;omega)
  rename_i e1 e2 e3;split
  ·refine h.store p node (hv a (by rw[hla];simp) ?_);have e1:bt p.aa.nodes a≠21:=e1;have e2:bt p.aa.nodes a≠19:=e2;have e3:bt p.aa.nodes a≠20:=e3;rcases hr with hr|hr|hr|hr
   ·exact hr
   ·exact(e2 hr).elim
   ·exact(e3 hr).elim
   ·exact(e1 hr).elim
  ·exact h
 split
 ·rename_i e1;obtain⟨a,ha,hr⟩:=sh.1.nL e1;have hla:(ai p node).l=[a]:=ha;have ha0:=ay a (by rw[hla];simp);have hx:nth (ai p node).l 0=a:=by rw[hla];rfl
  rw[hx];exact h.call hs hc ha0.2 hr
 split
 ·rename_i e2;obtain⟨x,y,hxy,hx,hy⟩:=sh.1.two (.inr e2);have hxy:(ai p node).l=[x,y]:=hxy;unfold RS.put;simp only;split
  ·exact h
  split
  ·exact h
  split
  ·exact h
  ·refine bP.on ⟨h.sl,fun l hm=>?_⟩;rcases tH hm with rfl|hm
   ·intro z hz;rcases tH hz with rfl|hz
    ·rw[show nth (ai p node).l 1=y by rw[hxy];rfl];exact hv y (by rw[hxy];simp) hy
    ·rcases CR R.heap (((dp R.ah.slots (nth p.slots node.toNat) 4).n)-1).toNat with e|e
     ·exact h.hp _ e z hz
     ·rw[e]at hz;cases hz
   ·exact h.hp l hm
 split
 ·rename_i e3;split
  ·exact h.bL p ny
  rename_i e4;split
  ·exact h
  ·rcases sh.1.ret e3 with hl0|⟨a,hl0,hE⟩
   ·exact(e4 (by unfold ai;rw[hl0];rfl)).elim
   ·have hl0:(ai p node).l=[a]:=hl0;rw[show nth (ai p node).l 0=a by rw[hl0];rfl];exact h.bL p (hv a (by rw[hl0];simp) hE)
 split
 ·exact h
 split
 ·split
  ·exact h
  ·exact bP.on ⟨h.sl,h.hp⟩
 split
 ·split
  ·exact h.on.bs _
  split
  ·exact h.on.bs _
  ·exact h.on
 split
 ·split
  ·exact h.bs _
  ·exact h.on
 ·exact h
theorem bP.st{R:RS}(h:bP R):lU R.st:=⟨fun f hf=>h.sl f (List.mem_of_mem_take hf),h.hp⟩
theorem lU.with{s:aJ}(h:lU s)(c t n:Int):lU { s with status:=c,aZ:=t,time:=n }:=⟨h.sl,h.hp⟩
variable{p:ab}{s:aJ}{inp:List Int}
theorem IH(hs:dx p)(hI:cI p s)(h:lU s)(hi:∀x∈inp,cY x):lU (dn p s inp):=by
 unfold dn;split
 ·exact h
 rename_i h0;split
 ·exact⟨h.sl,h.hp⟩
 simp only;split
 ·exact⟨h.sl,h.hp⟩
 ·have h2:¬(s.status=2\/s.status=3):=fun hh=>h0 (by unfold dK;rw[if_pos hh];decide)
  have hd:=hI.gM (fun hh=>h2 (.inl hh)) 0 jC;obtain⟨s0,s1,_⟩:=hd.stmt hs;have hat:cu p (RS.of { s with status:=0 }).st=dK p s:=by rw[RS.fy];unfold dK;rw[if_neg h2];rfl
  rw[hat]at s0 s1;have hr:bP (RS.of { s with status:=0 }):=⟨h.sl,h.hp⟩;have:=hr.bT hs hI.cells s0 s1 hi;exact(bP.settle _ (R:={ ((RS.of { s with status:=0 }).bT p (dK p s) inp).1 with time:=s.time+1 }) ⟨this.sl,this.hp⟩).st
structure Fits(s:aJ):Prop where
 aK:s.aq.length<=8
 heap:s.heap.length<=40
 out:s.ax.length<=24
 fr:∀k,k<s.aq.length->(nth s.aq k).slots.length<=24/\(nth s.aq k).path.length<=300
 hp:∀k,k<s.heap.length->(nth s.heap k).length<=40
theorem yS(hs:dx p):∃m:Nat,m<p.aa.ao.length/\jy p=(m:Int)/\(nth p.aa.ao m).name=(⟨#[109,97,105,110]⟩:ByteArray)/\(nth p.aa.ao m).params.length=0:=by
 obtain⟨j,hj,hmain⟩:=hs.names.main;unfold u6 at hmain;simp only[Bool.and_eq_true,decide_eq_true_eq]at hmain;obtain⟨⟨g1,g2⟩,_⟩:=hmain;obtain⟨f1,f2,f3⟩:=BK aX.name (⟨#[109,97,105,110]⟩:ByteArray) p.aa.ao 0 ⟨_,dT hj,g1⟩;have e:(gj aX.name (⟨#[109,97,105,110]⟩:ByteArray) p.aa.ao 0-0).toNat=(jy p).toNat:=by unfold jy;simp
 rw[e]at f3;have hlo:0<=jy p:=f1;have hhi:jy p<0+p.aa.ao.length:=f2;have hm:(jy p).toNat<p.aa.ao.length:=jB;have hjm:j=(jy p).toNat:=by
  rcases Nat.lt_trichotomy j (jy p).toNat with h|h|h
  ·exact(hs.names.one _ _ h hm (by rw[g1,f3])).elim
  ·exact h
  ·exact(hs.names.one _ _ h hj (by rw[g1,f3])).elim
 exact⟨(jy p).toNat,hm,jB,f3,by rw[<-hjm];omega⟩
def gO(p:ab):RS:=RS.of { H6 with aq:=[jc p (jy p) []] }
theorem th(hs:dx p):dt p (gO p):=by
 obtain⟨m,hm,hidx,_,hpar⟩:=yS hs;have hf:=(AI hs hm (args:=[]) (by rw[hpar];rfl)).1;refine⟨⟨RS.rY _,?_,fun k hk=>?_,fun k hk=>?_,fun _=>?_⟩,?_,?_,?_,?_⟩
 ·show 1<=8;omega
 ·have hk:k<1:=hk;have:k=0:=jB;subst this;show dr p (jc p (jy p) []);rw[hidx];exact hf
 ·have hk:k+1<1:=hk;omega
 ·show 1<=1;omega
 ·show ga []<=40;decide
 ·show 0<=24;omega
 ·show(0:Int)<=0;omega
 ·show(0:Int)<=1000;omega
theorem PW:bP (gO p):=⟨fun f hf=>by have hf:f∈[jc p (jy p) []]:=hf;rw[List.mem_singleton]at hf;subst hf;exact FD p _ fun v hv=>(by cases hv),fun l hl=>by cases hl⟩
theorem FM(p:ab):ot p=((gO p).settle p).st:=rfl
structure lA(p:ab)(n:Nat)(s:aJ):Prop where
 inv:cI p s
 cY:lU s
 t0:0<=s.time
 t1:s.time<=n
theorem FN(hs:dx p):lA p 0 (ot p):=by have k:=oa p ((gO p).left+1) (gO p);have e:(ot p).time=0:=k.time;exact⟨(th hs).settled,(bP.settle _ PW).st,jB,jB⟩
structure nW(R R':RS):Prop where
 time:R'.time=R.time
 aK:R.aK.length<=R'.aK.length
 heap:R.heap.length<=R'.heap.length
theorem nW.refl(R:RS):nW R R:=⟨rfl,Nat.le_refl _,Nat.le_refl _⟩
theorem nW.trans{a b c:RS}(h:nW a b)(k:nW b c):nW a c:=⟨k.time.trans h.time,Nat.le_trans h.aK k.aK,Nat.le_trans h.heap k.heap⟩
theorem N6:(dn p s inp).time=s.time\/(dn p s inp).time=s.time+1:=by
 unfold dn;split
 ·exact .inl rfl
 split
 ·exact .inl rfl
 simp only;split
 ·exact .inr rfl
 ·exact .inr (oa p _ _).time
theorem Hg(hs:dx p){n:Nat}(h:lA p n s)(hn:inp.length<=1000)(hi:∀x∈inp,Go.Gd.cY x):lA p (n+1) (dn p s inp):=by have ht:=@N6 p s inp;have:=h.t0;have:=h.t1;exact⟨FU hs h.inv hn,IH hs h.inv h.cY hi,jB,jB⟩
theorem uA{p:ab}(hs:dx p){inp:List Int}(hn:inp.length<=1000)(hi:∀x∈inp,Go.Gd.cY x):∀n,lA p n (bI p inp n)
 |0=>FN hs
 |n+1=>Hg hs (uA hs hn hi n) hn hi
theorem cI.fits(hs:dx p)(h:cI p s):Fits s:=by
 have h2:=BE s.heap;have h3:=h.cells;refine⟨h.inv.aK,jB,h.outs,fun k hk=>?_,fun k hk=>?_⟩
 ·have hf:dr p (nth s.aq k):=h.inv.fr k hk;have h0:=hf.f0;have h1:=hf.f1;have hz:=(hs.ao (nth s.aq k).fn.toNat jB).hi;have:=hf.sl;exact⟨jB,hf.len hs⟩
 ·have:=Bx s.heap k hk;omega
end Go.Proofs.YtfkgcobaheegbaaGreatDoor

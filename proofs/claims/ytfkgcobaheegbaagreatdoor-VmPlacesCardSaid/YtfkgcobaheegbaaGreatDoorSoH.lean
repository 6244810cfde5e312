/- Lemmas. No conditions. -/
import Derived.Test.YtfkgcobaheegbaaGreatDoorWd
set_option linter.all false
set_option maxHeartbeats 4000000
set_option maxRecDepth 10000
namespace Go.Proofs.YtfkgcobaheegbaaGreatDoor
open Go Go.Gd
theorem Gq(n:Int):dj (IntKind.i64.wrap n):=by unfold dj;rw[IntKind.wrap_i64];omega
theorem nG:dj 0:=by unfold dj;omega
theorem xz(b:Bool):dj (vB b).n:=by cases b<;>(show dj _;unfold vB dj;simp)
theorem Je{a b:Int}(h:dj a):dj (a.tmod b):=by
 unfold dj at*;by_cases h0:0<=a
 ·have h1:0<=a.tmod b:=Int.tmod_nonneg b h0
  have h2:a.tmod b<=a:=by
   have:=Int.mul_tdiv_add_tmod a b;by_cases hb:b=0
   ·subst hb;simp
   ·have hn:=Int.natAbs_tmod a b
    have:(a.tmod b).natAbs<=a.natAbs:=by rw[hn];exact Nat.mod_le _ _
    omega
  omega
 ·have hn:=Int.natAbs_tmod a b
  have:(a.tmod b).natAbs<=a.natAbs:=by rw[hn];exact Nat.mod_le _ _
  have h3:a.tmod b<=0:=by
   have:=Int.tmod_nonneg b (a:=-a) jB;rw[Int.neg_tmod]at this;omega
  omega
theorem Kh(s:ByteArray){a b:Int}(ha:dj a):dj (s9 s a b).1.n:=by
 unfold s9
 (repeat' split)<;>first|exact Gq _|exact nG|exact xz _|exact Je ha
theorem Md(s:ByteArray){a b:ak}(ha:dj a.n):dj (ki s a b).1.n:=by
 unfold ki
 (repeat' split)<;>first|exact Kh _ ha|exact nG|exact xz _
theorem GJ(s:ByteArray)(a:ak):dj (kI s a).n:=by
 unfold kI
 (repeat' split)<;>first|exact Gq _|exact nG|exact xz _
def ow(l:List ak):Prop:=∀v∈l,dj v.n
def BQ(h:List (List Int)):Prop:=∀l∈h,∀x∈l,dj x
def Mj(p:ab):Prop:=∀k,k<p.aa.nodes.length->(nth p.aa.nodes k).kind=1->dj (nth p.aa.nodes k).n
theorem rX.dj{p:ab}(h:rX p):Mj p:=fun k hk h1=>by
 obtain⟨s,hs,e⟩:=(h.aa.shape k hk).1.num h1;have hle:=DH hs;have hnum:pq s=(jX s.data.toList 0:Nat):=by
  unfold pq;rw[zo s hs.2.2 _ jl,List.take_of_length_le jE]
 rw[e,hnum];unfold Go.Gd.dj;omega
theorem PS{l:List ak}(h:ow l)(k t:Int):dj (df l k t).n:=by
 unfold df
 (repeat' split)<;>first|exact nG|exact h _ (dx jB)
theorem JZ{h:List (List Int)}(hr:BQ h)(v:ak)(k:Nat)(hk:k<(lg h v).length):dj (nth (lg h v) k):=by
 unfold lg at hk ⊢;split at hk
 ·simp at hk
 ·rename_i e
  rw[if_neg e];exact hr _ (dx jB) _ (dx hk)
theorem oo{c:Prop}[Decidable c]{x y:ak×Int}(h:c->dj x.1.n)(k:¬c->dj y.1.n):dj (if c then x else y).1.n:=by
 by_cases e:c
 ·rw[if_pos e];exact h e
 ·rw[if_neg e];exact k e
theorem Fo{p:ab}(h:rX p){slots:List ak}{heap:List (List Int)}(h1:ow slots)(h2:BQ heap)(h3:∀l∈heap,l.length<=1000000):∀(n:Nat) (a:Int),0<=a->a.toNat<p.aa.nodes.length->a.toNat<n->bO (bs p.aa.nodes a)->dj (dZ p slots heap n a).1.n
 |0,a,_,_,hn,_=>by omega
 |n+1,a,h0,hl,hn,hk=>by
  have sh:=h.aa.shape a.toNat hl;have hk:1<=(nth p.aa.nodes a.toNat).kind/\(nth p.aa.nodes a.toNat).kind<=9:=hk;have hlen:∀v:ak,((lg heap v).length:Int)<=1000000:=fun v=>by
   unfold lg;split
   ·simp
   ·have:=h3 _ (dx (l:=heap) (k:=(v.n-1).toNat) jB);omega
  have hX:(∃x y,(nth p.aa.nodes a.toNat).l=[x,y]/\bO (bs p.aa.nodes x))\/(∃x,(nth p.aa.nodes a.toNat).l=[x]/\bO (bs p.aa.nodes x))\/(nth p.aa.nodes a.toNat).kind<=4:=by
   by_cases e:(nth p.aa.nodes a.toNat).kind=9
   ·obtain⟨x,y,g1,g2,_⟩:=sh.1.two (.inl e);exact .inl ⟨x,y,g1,g2⟩
   ·by_cases e4:(nth p.aa.nodes a.toNat).kind<=4
    ·exact .inr (.inr e4)
    ·obtain⟨x,g1,g2⟩:=sh.1.one jB;exact .inr (.inl ⟨x,g1,g2⟩)
  have hX0:4<(nth p.aa.nodes a.toNat).kind->dj (dZ p slots heap n (nth (nth p.aa.nodes a.toNat).l 0)).1.n/\(dZ p slots heap n (nth (nth p.aa.nodes a.toNat).l 0)).1.s.size<=40:=fun hk4=>by
   have:∃x,nth (nth p.aa.nodes a.toNat).l 0=x/\x∈(nth p.aa.nodes a.toNat).l/\bO (bs p.aa.nodes x):=by
    rcases hX with⟨x,y,g1,g2⟩|⟨x,g1,g2⟩|g
    ·exact⟨x,by rw[g1];rfl,by rw[g1];simp,g2⟩
    ·exact⟨x,by rw[g1];rfl,by rw[g1];simp,g2⟩
    ·omega
   obtain⟨x,g1,g2,g3⟩:=this;rw[g1];have hb:=sh.2.1 x g2;exact⟨Fo h h1 h2 h3 n x hb.1 jB jB g3,(sW h slots heap n x hb.1 jB jB g3).size⟩
  unfold dZ;dsimp only;generalize dZ p slots heap n (nth (nth p.aa.nodes a.toNat).l 0)=X at*;generalize dZ p slots heap n (nth (nth p.aa.nodes a.toNat).l 1)=Y at*;refine oo (fun e=>h.dj _ hl e) fun e1=>oo (fun _=>xz _) fun e2=>oo (fun _=>nG) fun e3=>oo (fun _=>PS h1 _ _) fun e4=>?_
  obtain⟨x1,x2⟩:=hX0 jB;refine oo (fun _=>nG) fun e5=>oo (fun _=>oo (fun _=>nG) fun e=>JZ h2 _ _ jB) fun e6=>oo (fun _=>oo (fun _=>x1) fun _=>oo (fun _=>nG) fun _=>Md _ x1) fun e7=>oo (fun _=>oo (fun _=>?_) fun _=>?_) fun e8=>oo (fun _=>GJ _ _) fun _=>GJ _ _
  ·show Go.Gd.dj (_:Int)
   unfold vI Go.Gd.dj;simp only;omega
  ·have:=hlen X.1
   show Go.Gd.dj (_:Int);unfold vI Go.Gd.dj;simp only;omega
structure bM(R:RS):Prop where
 sl:∀f∈R.aJ,ow f.slots
 hp:BQ R.heap
def lU(s:aK):Prop:=bM (RS.of s)
theorem bM.aQ{R:RS}(h:bM R)(k:Nat){f:aI}(hf:ow f.slots):bM (R.aQ k f):=⟨fun g hg=>by
 rcases tP hg with rfl|hg
 ·exact hf
 ·exact h.sl g hg,h.hp⟩
theorem zk{α:Type}[Inhabited α](l:List α)(k:Nat):nth l k∈l\/nth l k=default:=by
 by_cases h:k<l.length
 ·exact .inl (dx h)
 ·right;unfold nth;rw[List.getD_eq_getElem?_getD,List.getElem?_eq_none jB];rfl
theorem bM.at_{R:RS}(h:bM R)(k:Nat):ow (nth R.aJ k).slots:=by
 rcases zk R.aJ k with e|e
 ·exact h.sl _ e
 ·rw[e];intro v hv;cases hv
theorem bM.on{R:RS}(h:bM R):bM R.on:=h.aQ _ (h.at_ _)
theorem Kb{l:List ak}(h:ow l)(k:Nat){v:ak}(hv:dj v.n):ow (l.set k v):=fun x hx=>by
 rcases tP hx with rfl|hx
 ·exact hv
 ·exact h x hx
theorem bM.fC{R:RS}(h:bM R)(p:ab)(a:Int){v:ak}(hv:dj v.n):bM (R.fC p a v):=h.aQ _ (Kb (h.at_ _) _ hv)
theorem bM.store{R:RS}(h:bM R)(p:ab)(a:Int){v:ak}(hv:dj v.n):bM (R.store p a v):=(h.fC p a hv).on
theorem bM.bI{R:RS}(h:bM R)(p:ab){v:ak}(hv:dj v.n):bM (R.bI p v):=by
 have hp:bM R.pop:=⟨h.sl,h.hp⟩;unfold RS.bI;split
 ·exact⟨h.sl,h.hp⟩
 split
 ·exact(hp.fC p _ hv).on
 ·exact hp.on
theorem bM.cut{R:RS}(h:bM R):bM R.cut:=⟨fun g hg=>by
 rcases tP hg with rfl|hg
 ·exact h.at_ _
 ·exact h.sl g hg,h.hp⟩
theorem bM.settle{p:ab}:∀(n:Nat) {R:RS},bM R->bM (lB p n R)
 |0,R,h=>h
 |n+1,R,h=>by
  unfold lB;split
  ·exact h
  split
  ·exact bM.settle n (h.bI p nG)
  split
  ·exact h
  ·exact bM.settle n h.cut
theorem bM.push{R:RS}(h:bM R){f:aI}(hf:ow f.slots):bM (R.push f):=⟨fun g hg=>by
 have hg:g∈R.aJ++[f]:=hg;rcases List.mem_append.1 hg with hg|hg
 ·exact h.sl g hg
 ·rw[List.mem_singleton]at hg;subst hg;exact hf,h.hp⟩
theorem bM.bq{R:RS}(h:bM R)(b:Int):bM (R.bq b):=h.aQ _ (h.at_ _)
theorem DG{p:ab}(R:RS):∀(l:List Int) (a:List ak),(∀x∈l,dj (R.val p x).1.n)->ow a->ow (R.args p l a).1
 |[],a,_,h=>by unfold RS.args;exact h
 |x::l,a,hl,h=>by
  unfold RS.args;split
  ·exact h
  ·refine DG R l _ (fun y hy=>hl y (by simp[hy])) fun v hv=>?_
   rcases List.mem_append.1 hv with hv|hv
   ·exact h v hv
   ·rw[List.mem_singleton]at hv;subst hv;exact hl x jE
theorem Et(p:ab)(fn:Int){a:List ak}(h:ow a):ow (iJ p fn a).slots:=fun v hv=>by
 have hv:v∈a++List.replicate _ v0:=hv;rcases List.mem_append.1 hv with hv|hv
 ·exact h v hv
 ·rw[(List.mem_replicate.1 hv).2];exact nG
theorem bM.val{p:ab}(hs:dT p){R:RS}(h:bM R)(hc:fg R.heap<=40){x:Int}(h0:0<=x)(hl:x.toNat<p.aa.nodes.length)(hE:bO (bs p.aa.nodes x)):dj (R.val p x).1.n:=
 Fo hs.ok (h.at_ _) h.hp (fun l hm=>by
  obtain⟨k,hk,rfl⟩:=List.getElem_of_mem hm;have:=AB R.heap k hk;rw[dN hk]at this;omega) _ x h0 hl jB hE
theorem bM.call{p:ab}(hs:dT p){R:RS}(h:bM R)(hc:fg R.heap<=40){a:Int}(hl:a.toNat<p.aa.nodes.length)(hk:(ai p a).kind=21):bM (R.call p a).1:=by
 have sh:=hs.ok.aa.shape a.toNat hl;unfold RS.call;simp only;split
 ·exact h
 split
 ·exact h
 ·refine h.push (Et p _ (DG R _ _ (fun x hx=>?_) fun v hv=>by cases hv))
  have:=sh.2.1 x hx;exact h.val hs hc this.1 jB (sh.1.call hk x hx)
theorem bM.cr{p:ab}(hs:dT p){R:RS}(h:bM R)(hc:fg R.heap<=40){node:Int}(h0:0<=node)(hl:node.toNat<p.aa.nodes.length){inp:List Int}(hi:∀x∈inp,dj x):bM (R.cr p node inp).1:=by
 have sh:=hs.ok.aa.shape node.toNat hl;have aw:∀x∈(ai p node).l,0<=x/\x.toNat<p.aa.nodes.length:=fun x hx=>by have:=sh.2.1 x hx;omega
 have hv:∀x∈(ai p node).l,bO (bs p.aa.nodes x)->dj (R.val p x).1.n:=fun x hx hE=>h.val hs hc (aw x hx).1 (aw x hx).2 hE
 unfold RS.cr;simp only;split
 ·rename_i e
  obtain⟨a,ha,hr⟩:=sh.1.right e;have hla:(ai p node).l=[a]:=ha;have ha0:=aw a (by rw[hla];simp);have hx:nth (ai p node).l 0=a:=by rw[hla];rfl
  unfold RS.right;simp only[hx];split
  ·rename_i e1;exact h.call hs hc ha0.2 e1
  split
  ·refine bM.store (R:={ R with in_:=R.in_+1 }) ⟨h.sl,h.hp⟩ p node ?_
   show dj (nth inp _);rcases zk inp R.in_.toNat with e|e
   ·exact hi _ e
   ·rw[e];exact nG
  split
  ·unfold RS.fresh
   simp only;have hf:∀(n:Nat),bM { R with heap:=R.heap++[List.replicate n 0] }:=fun n=>⟨h.sl,fun l hm=>by
    have hm:l∈R.heap++[List.replicate n 0]:=hm;rcases List.mem_append.1 hm with hm|hm
    ·exact h.hp l hm
    ·rw[List.mem_singleton]at hm;subst hm;intro x hx;rw[(List.mem_replicate.1 hx).2];exact nG⟩
   have hlen:=xc R.heap;have key:∀r:RS×ak×Int,bM r.1->dj r.2.1.n->bM (if r.2.2=0 then(r.1.store p node r.2.1,(0:Int))else(r.1,r.2.2)).1:=fun r g1 g2=>by
    split
    ·exact g1.store p node g2
    ·exact g1
   refine key _ ?_ ?_
   ·(repeat' split)<;>first|exact h|exact hf _
   ·(repeat' split)<;>first|exact nG|(show dj (_:Int);unfold dj;simp only;omega)
  rename_i e1 e2 e3;split
  ·refine h.store p node (hv a (by rw[hla];simp) ?_)
   have e1:bs p.aa.nodes a≠21:=e1;have e2:bs p.aa.nodes a≠19:=e2;have e3:bs p.aa.nodes a≠20:=e3;rcases hr with hr|hr|hr|hr
   ·exact hr
   ·exact(e2 hr).elim
   ·exact(e3 hr).elim
   ·exact(e1 hr).elim
  ·exact h
 split
 ·rename_i e1
  obtain⟨a,ha,hr⟩:=sh.1.mR e1;have hla:(ai p node).l=[a]:=ha;have ha0:=aw a (by rw[hla];simp);have hx:nth (ai p node).l 0=a:=by rw[hla];rfl
  rw[hx];exact h.call hs hc ha0.2 hr
 split
 ·rename_i e2
  obtain⟨x,y,hxy,hx,hy⟩:=sh.1.two (.inr e2);have hxy:(ai p node).l=[x,y]:=hxy;unfold RS.put;simp only;split
  ·exact h
  split
  ·exact h
  split
  ·exact h
  ·refine bM.on ⟨h.sl,fun l hm=>?_⟩
   rcases tP hm with rfl|hm
   ·intro z hz
    rcases tP hz with rfl|hz
    ·rw[show nth (ai p node).l 1=y by rw[hxy];rfl]
     exact hv y (by rw[hxy];simp) hy
    ·rcases zk R.heap (((df R.ah.slots (nth p.slots node.toNat) 4).n)-1).toNat with e|e
     ·exact h.hp _ e z hz
     ·rw[e]at hz;cases hz
   ·exact h.hp l hm
 split
 ·rename_i e3
  split
  ·exact h.bI p nG
  rename_i e4;split
  ·exact h
  ·rcases sh.1.ret e3 with hl0|⟨a,hl0,hE⟩
   ·exact(e4 (by unfold ai;rw[hl0];rfl)).elim
   ·have hl0:(ai p node).l=[a]:=hl0
    rw[show nth (ai p node).l 0=a by rw[hl0];rfl];exact h.bI p (hv a (by rw[hl0];simp) hE)
 split
 ·exact h
 split
 ·split
  ·exact h
  ·exact bM.on ⟨h.sl,h.hp⟩
 split
 ·split
  ·exact h.on.bq _
  split
  ·exact h.on.bq _
  ·exact h.on
 split
 ·split
  ·exact h.bq _
  ·exact h.on
 ·exact h
theorem bM.st{R:RS}(h:bM R):lU R.st:=⟨fun f hf=>h.sl f (List.mem_of_mem_take hf),h.hp⟩
theorem lU.with{s:aK}(h:lU s)(c t n:Int):lU { s with status:=c,bn:=t,time:=n }:=⟨h.sl,h.hp⟩
variable{p:ab}{s:aK}{inp:List Int}
theorem OY(hs:dT p)(hI:cV p s)(h:lU s)(hi:∀x∈inp,dj x):lU (hZ p s inp):=by
 unfold hZ;split
 ·exact h
 rename_i h0;split
 ·exact⟨h.sl,h.hp⟩
 simp only;split
 ·exact⟨h.sl,h.hp⟩
 ·have h2:¬(s.status=2\/s.status=3):=fun hh=>h0 (by unfold fG;rw[if_pos hh];decide)
  have hd:=hI.iE (fun hh=>h2 (.inl hh)) 0 jC;obtain⟨s0,s1,_⟩:=hd.stmt hs;have hat:cn p (RS.of { s with status:=0 }).st=fG p s:=by rw[RS.fW];unfold fG;rw[if_neg h2];rfl
  rw[hat]at s0 s1;have hr:bM (RS.of { s with status:=0 }):=⟨h.sl,h.hp⟩;have:=hr.cr hs hI.cells s0 s1 hi;exact(bM.settle _ (R:={ ((RS.of { s with status:=0 }).cr p (fG p s) inp).1 with time:=s.time+1 }) ⟨this.sl,this.hp⟩).st
structure Fits(s:aK):Prop where
 aJ:s.ao.length<=8
 heap:s.heap.length<=40
 out:s.ay.length<=24
 fr:∀k,k<s.ao.length->(nth s.ao k).slots.length<=24/\(nth s.ao k).path.length<=300
 hp:∀k,k<s.heap.length->(nth s.heap k).length<=40
theorem yF(hs:dT p):∃m:Nat,m<p.aa.ap.length/\jn p=(m:Int)/\(nth p.aa.ap m).name=(⟨#[109,97,105,110]⟩:ByteArray)/\(nth p.aa.ap m).params.length=0:=by
 obtain⟨j,hj,hmain⟩:=hs.names.main;unfold uf at hmain;simp only[Bool.and_eq_true,decide_eq_true_eq]at hmain;obtain⟨⟨g1,g2⟩,_⟩:=hmain;obtain⟨f1,f2,f3⟩:=AL aW.name (⟨#[109,97,105,110]⟩:ByteArray) p.aa.ap 0 ⟨_,dx hj,g1⟩;have e:(fX aW.name (⟨#[109,97,105,110]⟩:ByteArray) p.aa.ap 0-0).toNat=(jn p).toNat:=by unfold jn;simp
 rw[e]at f3;have hlo:0<=jn p:=f1;have hhi:jn p<0+p.aa.ap.length:=f2;have hm:(jn p).toNat<p.aa.ap.length:=jB
 have hjm:j=(jn p).toNat:=by
  rcases Nat.lt_trichotomy j (jn p).toNat with h|h|h
  ·exact(hs.names.one _ _ h hm (by rw[g1,f3])).elim
  ·exact h
  ·exact(hs.names.one _ _ h hj (by rw[g1,f3])).elim
 exact⟨(jn p).toNat,hm,jB,f3,by rw[<-hjm];omega⟩
def jM(p:ab):RS:=RS.of { FP with ao:=[iJ p (jn p) []] }
theorem vJ(hs:dT p):di p (jM p):=by
 obtain⟨m,hm,hidx,_,hpar⟩:=yF hs;have hf:=(zU hs hm (args:=[]) (by rw[hpar];rfl)).1;refine⟨⟨RS.rj _,?_,fun k hk=>?_,fun k hk=>?_,fun _=>?_⟩,?_,?_,?_,?_⟩
 ·show 1<=8;omega
 ·have hk:k<1:=hk
  have:k=0:=jB
  subst this;show dc p (iJ p (jn p) []);rw[hidx];exact hf
 ·have hk:k+1<1:=hk
  omega
 ·show 1<=1;omega
 ·show fg []<=40;decide
 ·show 0<=24;omega
 ·show(0:Int)<=0;omega
 ·show(0:Int)<=1000;omega
theorem KW:bM (jM p):=⟨fun f hf=>by
 have hf:f∈[iJ p (jn p) []]:=hf;rw[List.mem_singleton]at hf;subst hf;exact Et p _ fun v hv=>(by cases hv),fun l hl=>by cases hl⟩
theorem Gg(p:ab):oi p=((jM p).settle p).st:=rfl
structure lz(p:ab)(n:Nat)(s:aK):Prop where
 inv:cV p s
 dj:lU s
 t0:0<=s.time
 t1:s.time<=n
theorem O1(hs:dT p):lz p 0 (oi p):=by
 have k:=qe p ((jM p).left+1) (jM p);have e:(oi p).time=0:=k.time;exact⟨(vJ hs).settled,(bM.settle _ KW).st,jB,jB⟩
structure nN(R R':RS):Prop where
 time:R'.time=R.time
 aJ:R.aJ.length<=R'.aJ.length
 heap:R.heap.length<=R'.heap.length
theorem nN.refl(R:RS):nN R R:=⟨rfl,Nat.le_refl _,Nat.le_refl _⟩
theorem nN.trans{a b c:RS}(h:nN a b)(k:nN b c):nN a c:=⟨k.time.trans h.time,Nat.le_trans h.aJ k.aJ,Nat.le_trans h.heap k.heap⟩
theorem Pr:(hZ p s inp).time=s.time\/(hZ p s inp).time=s.time+1:=by
 unfold hZ;split
 ·exact .inl rfl
 split
 ·exact .inl rfl
 simp only;split
 ·exact .inr rfl
 ·exact .inr (qe p _ _).time
theorem Pe(hs:dT p){n:Nat}(h:lz p n s)(hn:inp.length<=1000)(hi:∀x∈inp,Go.Gd.dj x):lz p (n+1) (hZ p s inp):=by
 have ht:=@Pr p s inp;have:=h.t0;have:=h.t1;exact⟨E5 hs h.inv hn,OY hs h.inv h.dj hi,jB,jB⟩
theorem cV.fits(hs:dT p)(h:cV p s):Fits s:=by
 have h2:=xc s.heap;have h3:=h.cells;refine⟨h.inv.aJ,jB,h.outs,fun k hk=>?_,fun k hk=>?_⟩
 ·have hf:dc p (nth s.ao k):=h.inv.fr k hk
  have h0:=hf.f0;have h1:=hf.f1;have hz:=(hs.ap (nth s.ao k).fn.toNat jB).hi;have:=hf.sl;exact⟨jB,hf.len hs⟩
 ·have:=AB s.heap k hk;omega
end Go.Proofs.YtfkgcobaheegbaaGreatDoor
